/- Texts put behind one another: AxCBase, AxCLib. Conditions: none. -/
import Derived.Test.YtlaipllgmddkiaaGreatAxEnterZ
import Derived.Test.YtlaipllgmddkiaaGreatProg
import Derived.KernelRfl
set_option linter.all false
namespace Go.Proofs.YtlaipllgmddkiaaGreat.Ax
open Go Go.Ax
set_option maxRecDepth 100000
def k15_0 : ACode := .cond (.t 24) (.seq (.region [W1 2 (.mv (.c (.bool false)))]) (.ret)) (.skip)
def k15_1 : ACode := .seq (.region [zL 25 5 1, W1 26 (.call 71 [(.t 25)]), zV 27 26, W2 28 27 true (.ld (some 5) (.t 1)), W2 29 27 true (.call 72 [(.t 28)]), W1 30 (.pick (.t 27) (.t 29) (.c (.bool false))), zV 31 30, W2 32 31 true (.ld (some 5) (.t 1)), W2 33 31 true (.call 73 [(.t 32)]), W1 34 (.pick (.t 31) (.t 33) (.c (.bool false))), zV 35 34, W2 36 35 true (.ld (some 5) (.t 1)), W2 37 35 true (.call 74 [(.t 36)]),
 W2 38 35 true (.un .not (.t 37)), W1 39 (.pick (.t 35) (.t 38) (.c (.bool false))), zV 40 39, W2 41 40 true (.ld (some 5) (.t 1)), W2 42 40 true (.call 76 [(.t 41)]), W2 43 40 true (.call 75 [(.t 42)]), W1 44 (.pick (.t 40) (.t 43) (.c (.bool false))), zV 45 44, W2 46 45 true (.ld (some 5) (.t 1)), W2 47 45 true (.call 77 [(.t 46)]), W1 48 (.pick (.t 45) (.t 47) (.c (.bool false))), zV 2 48]) (.ret)
def k15_2 : ACode := .seq (.seq (.region [zF 3 0 1, zL 4 3 3, W1 5 (.call 70 [(.t 4)]), zN 6 5, zV 7 6, W2 8 7 false (.fld 3 (.t 1)), W2 9 7 false (.ld none (.t 8)), W2 10 7 false (.len false (.t 9)), W2 11 7 false (.fld 0 (.t 1)), W2 12 7 false (.fld 1 (.t 11)), W2 13 7 false (.ld none (.t 12)), W2 14 7 false (.bin .neq (.t 10) (.t 13)), W1 15 (.pick (.t 7) (.c (.bool true)) (.t 14)), zV 16 15,
 W2 17 16 false (.fld 4 (.t 1)), W2 18 16 false (.ld none (.t 17)), W2 19 16 false (.len false (.t 18)), W2 20 16 false (.fld 0 (.t 1)), W2 21 16 false (.fld 2 (.t 20)), W2 22 16 false (.ld none (.t 21)), W2 23 16 false (.bin .neq (.t 19) (.t 22)), W1 24 (.pick (.t 16) (.c (.bool true)) (.t 23))]) k15_0) k15_1
def c15 : ACode := .seq (.region [W1 1 (.box (.t 0)), W1 2 (.mv (.c (.bool false)))]) k15_2
theorem ok15 : fnOk Tryz.prog 15 c15 49 [.t 2] = true := by kernel_rfl
def w15 := aW k15_0.eq_1 (aW k15_1.eq_1 (oW k15_2.eq_1))
def k16_0 : ACode := .seq (.drawn [(0, zF 3 0 1), (1, zL 4 3 3), (2, zF 5 3 1), (3, zM 6 5), (5, zF 8 4 1), (6, zM 9 8), (4, W1 7 (.call 78 [(.t 6)])), (7, W1 10 (.call 79 [(.t 9)])), (8, W1 11 (.build [.int .i64 0, .int .i64 0, .int .i64 0, .lit (.slice none 0 0), .lit (.slice none 0 0)] [(0, 3, (.t 4)), (3, 1, (.t 7)), (4, 1, (.t 10))])), (9, zS 5 2 11)] [[], [0], [], [2], [3], [], [5], [6, 4], [1, 4, 7], [8, 7, 0, 1, 2, 3, 4, 5, 6, 7, 8]] 0) (.ret)
def c16 : ACode := .seq (.region [W1 1 (.box (.t 0)), W1 2 (.new [.int .i64 0, .int .i64 0, .int .i64 0, .lit (.slice none 0 0), .lit (.slice none 0 0)])]) k16_0
theorem ok16 : fnOk Tryz.prog 16 c16 12 [.c 2 (some 5)] = true := by kernel_rfl
def k23_0 : ACode := .seq (.region [zF 5 0 2, zL 6 3 5, zF 7 0 3, zL 8 3 7, W1 9 (.eqs false [0, 0, 0] (.t 6) (.t 8)), zV 10 9, W2 11 10 true (.fld 3 (.t 2)), W2 12 10 true (.ld none (.t 11)), W2 13 10 true (.fld 3 (.t 3)), W2 14 10 true (.ld none (.t 13)), W2 15 10 true (.call 96 [(.t 12), (.t 14)]), W1 16 (.pick (.t 10) (.t 15) (.c (.bool false))), zV 17 16, W2 18 17 true (.fld 4 (.t 2)),
 W2 19 17 true (.ld none (.t 18)), W2 20 17 true (.fld 4 (.t 3)), W2 21 17 true (.ld none (.t 20)), W2 22 17 true (.call 97 [(.t 19), (.t 21)]), W1 23 (.pick (.t 17) (.t 22) (.c (.bool false))), zV 4 23]) (.ret)
def c23 : ACode := .seq (.region [W1 2 (.box (.t 0)), W1 3 (.box (.t 1)), W1 4 (.mv (.c (.bool false)))]) k23_0
theorem ok23 : fnOk Tryz.prog 23 c23 24 [.t 4] = true := by kernel_rfl
def k50_0 : ACode := .seq (.region [zV 31 4, W1 32 (.sbin .neq (.t 31) (.c (.str []))), zV 33 32, W2 34 33 true (.fld 1 (.t 1)), W2 35 33 true (.ld (some 1) (.t 34)), W2 36 33 true (.call 116 [(.t 35)]), W1 37 (.pick (.t 33) (.t 36) (.c (.bool false))), zV 38 37, zU 39 5 38 true, W1 40 (.pick (.t 38) (.t 39) (.c (.bool false))), zV 41 40, W2 42 41 true (.ld (some 6) (.t 1)), W2 43 41 true (.call 118 [(.t 42)]),
 W1 44 (.pick (.t 41) (.t 43) (.c (.bool false))), zV 45 44, W2 46 45 true (.fld 5 (.t 1)), W2 47 45 true (.ld none (.t 46)), W2 48 45 true (.bin .eql (.t 47) (.c (.int .u64 0))), zU 49 48 45 true, zU 50 4 49 false, W2 51 49 false (.call 115 [(.t 50), (.c (.str [87]))]), W2 52 45 true (.pick (.t 49) (.c (.bool true)) (.t 51)), W1 53 (.pick (.t 45) (.t 52) (.c (.bool false))), zV 2 53]) (.ret)
def k50_1 : ACode := .seq (.region [zF 12 2 1, zF 13 0 12, zM 14 13, W1 15 (.len false (.t 14)), W1 16 (.bin .eql (.t 15) (zI 0)), zV 17 16, zU 18 4 17 true, W2 19 17 true (.call 115 [(.t 18), (.c (.str [66]))]), W2 20 17 true (.un .not (.t 19)), W1 21 (.pick (.t 17) (.t 20) (.c (.bool false))), zV 22 21, W2 23 22 false (.fld 2 (.t 1)), W2 24 22 false (.ld (some 1) (.t 23)), W2 25 22 false (.call 116 [(.t 24)]),
 zU 26 25 22 false, zU 27 4 26 true, W2 28 26 true (.call 117 [(.t 27), (.c (.str [66, 98]))]), W2 29 22 false (.pick (.t 26) (.t 28) (.c (.bool false))), W1 30 (.pick (.t 22) (.c (.bool true)) (.t 29)), zV 5 30]) k50_0
def k50_2 : ACode := .seq (.region [zF 7 0 1, zM 8 7, W1 9 (.call 114 [(.t 8)]), zV 6 9, zE 10 6 0, zE 11 6 1, zV 3 10, zV 4 11]) k50_1
def c50 : ACode := .seq (.region [W1 1 (.box (.t 0)), W1 2 (.mv (.c (.bool false)))]) k50_2
theorem ok50 : fnOk Tryz.prog 50 c50 54 [.t 2] = true := by kernel_rfl
def w50 := aW k50_0.eq_1 (aW k50_1.eq_1 (oW k50_2.eq_1))
def k53_0 : ACode := .cond (.t 11) (.seq (.region [W1 2 (.mv (.c (.lit (.slice none 0 0))))]) (.ret)) (.skip)
def k53_1 : ACode := .seq (.region [zV 39 3, zV 40 5, zV 41 7, zF 42 5 1, zM 43 42, W1 44 (.bsl 1 4 [.int .u64 0] [(0, (.t 39)), (1, (.t 40)), (2, (.t 41)), (3, (.t 43))]), zV 2 44]) (.ret)
def k53_2 : ACode := .seq (.region [zF 34 2 1, zL 35 1 34, W1 36 (.call 123 [(.t 35)]), zV 33 36, zE 37 33 0, zE 38 33 1, zV 7 37, zV 8 38]) k53_1
def k53_3 : ACode := .seq (.region [zF 28 1 1, zL 29 1 28, W1 30 (.call 123 [(.t 29)]), zV 27 30, zE 31 27 0, zE 32 27 1, zV 5 31, zV 6 32]) k53_2
def k53_4 : ACode := .seq (.drawn [(1, zF 14 0 1), (2, zM 15 14), (4, zF 17 3 1), (5, zM 18 17), (7, zF 20 4 1), (8, zM 21 20), (0, W1 13 (.call 122 [])), (3, W1 16 (.cvt .u64 (.t 15))), (6, W1 19 (.cvt .u64 (.t 18))), (9, W1 22 (.cvt .u64 (.t 21))), (10, W1 23 (.born 0 (.bsl 1 3 [.int .u64 0] [(0, (.t 16)), (1, (.t 19)), (2, (.t 22))]))), (11, W1 24 (.call 121 [(.t 13), (.t 23)])), (12, zV 12 24), (13, zE 25 12 0), (14, zE 26 12 1), (15, zV 3 25),
 (16, zV 4 26)] [[], [], [1], [2], [], [4], [5], [], [7], [8], [3, 6, 9], [0, 10, 0], [11], [12], [12], [13, 11, 0, 1, 2, 3, 4, 5, 6, 7, 8, 9, 10, 11, 12, 13], [14, 15, 0, 1, 2, 3, 4, 5, 6, 7, 8, 9, 10, 11, 12, 13, 14, 15]] 1) k53_3
def k53_5 : ACode := .seq (.seq (.region [zL 9 6 1, W1 10 (.call 50 [(.t 9)]), zN 11 10]) k53_0) k53_4
def c53 : ACode := .seq (.region [W1 1 (.box (.t 0)), W1 2 (.mv (.c (.lit (.slice none 0 0))))]) k53_5
theorem ok53 : fnOk Tryz.prog 53 c53 45 [.t 2] = true := by kernel_rfl
def w53 := aW k53_0.eq_1 (aW k53_1.eq_1 (aW k53_2.eq_1 (aW k53_3.eq_1 (aW k53_4.eq_1 (oW k53_5.eq_1)))))
def k55_0 : ACode := .seq (.region [W1 9 (.build [.int .i64 0, .lit (.slice none 0 0), .lit (.slice none 0 0), .int .i64 0, .int .i64 0, .int .u64 0] []), zS 6 2 9, W1 3 (.mv (.c (.bool false)))]) (.ret)
def k55_1 : ACode := .seq (.region [W1 52 (.build [.int .i64 0, .lit (.slice none 0 0), .lit (.slice none 0 0), .int .i64 0, .int .i64 0, .int .u64 0] []), zS 6 2 52, W1 3 (.mv (.c (.bool false)))]) (.ret)
def k55_2 : ACode := .seq (.region [zL 53 6 5, zS 6 2 53, W1 3 (.mv (.c (.bool true)))]) (.ret)
def k55_3 : ACode := .seq (.seq (.region [zL 47 6 5, W1 48 (.call 53 [(.t 47)]), zV 49 0, W1 50 (.call 127 [(.t 48), (.t 49)]), zN 51 50]) (.cond (.t 51) k55_1 (.skip))) k55_2
def k55_4 : ACode := .seq (.region [zV 40 0, W1 41 (.ixs 1 (.t 40) (zI 2)), zM 42 41, W1 43 (.call 126 [(.t 42)]), zV 39 43, zE 44 39 0, zE 45 39 1, zF 46 2 5, zS 1 46 44]) k55_3
def k55_5 : ACode := .seq (.region [zV 32 0, W1 33 (.ixs 1 (.t 32) (zI 1)), zM 34 33, W1 35 (.call 126 [(.t 34)]), zV 31 35, zE 36 31 0, zE 37 31 1, zF 38 1 5, zS 1 38 36]) k55_4
def k55_6 : ACode := .seq (.drawn [(0, zV 15 4), (1, W1 16 (.ixs 1 (.t 15) (zI 0))), (2, zM 17 16), (4, zV 19 4), (5, W1 20 (.ixs 1 (.t 19) (zI 1))), (6, zM 21 20), (8, zV 23 4), (9, W1 24 (.ixs 1 (.t 23) (zI 2))), (10, zM 25 24), (12, zV 27 0), (13, W1 28 (.ixs 1 (.t 27) (zI 3))), (14, zM 29 28), (3, W1 18 (.cvt .i64 (.t 17))), (7, W1 22 (.cvt .i64 (.t 21))), (11, W1 26 (.cvt .i64 (.t 25))),
 (15, W1 30 (.build [.int .i64 0, .lit (.slice none 0 0), .lit (.slice none 0 0), .int .i64 0, .int .i64 0, .int .u64 0] [(0, 1, (.t 18)), (3, 1, (.t 22)), (4, 1, (.t 26)), (5, 1, (.t 29))])), (16, W1 5 (.born 0 (.new [.int .i64 0, .lit (.slice none 0 0), .lit (.slice none 0 0), .int .i64 0, .int .i64 0, .int .u64 0]))), (17, zS 6 5 30)] [[], [0], [1], [2], [], [4], [5], [6], [], [8], [9], [10], [], [12], [13], [3, 7, 11, 14], [], [16, 15, 0, 1, 2, 3, 4, 5, 6, 7, 8, 9, 10, 11, 12, 13, 14, 15, 16]] 1) k55_5
def k55_7 : ACode := .seq (.drawn [(0, zV 10 0), (1, W1 11 (.ixs 1 (.t 10) (zI 0))), (2, zM 12 11), (3, W1 13 (.call 122 [])), (4, W1 14 (.call 125 [(.t 12), (.t 13)])), (5, zV 4 14)] [[], [0], [1], [], [2, 3, 3], [4, 4, 0, 1, 2, 3, 4]] 0) k55_6
def k55_8 : ACode := .seq (.seq (.region [zV 6 0, W1 7 (.len false (.t 6)), W1 8 (.bin .neq (.t 7) (zI 4))]) (.cond (.t 8) k55_0 (.skip))) k55_7
def c55 : ACode := .seq (.region [W1 2 (.new [.int .i64 0, .lit (.slice none 0 0), .lit (.slice none 0 0), .int .i64 0, .int .i64 0, .int .u64 0]), W1 3 (.mv (.c (.bool false)))]) k55_8
theorem ok55 : fnOk Tryz.prog 55 c55 54 [.c 2 (some 6), .t 3] = true := by kernel_rfl
def w55 := aW k55_0.eq_1 (aW k55_1.eq_1 (aW k55_2.eq_1 (aW k55_3.eq_1 (aW k55_4.eq_1 (aW k55_5.eq_1 (aW k55_6.eq_1 (aW k55_7.eq_1 (oW k55_8.eq_1))))))))
def k59_0 : ACode := .seq (.region [zL 3 4 1, W1 4 (.build [.int .i64 0, .int .i64 0, .int .i64 0, .int .i64 0] []), W1 5 (.eqs false [0, 0, 0, 0] (.t 3) (.t 4)), zV 2 5]) (.ret)
def c59 : ACode := .seq (.region [W1 1 (.box (.t 0)), W1 2 (.mv (.c (.bool false)))]) k59_0
theorem ok59 : fnOk Tryz.prog 59 c59 6 [.t 2] = true := by kernel_rfl
def k60_0 : ACode := .seq (.region [W1 25 (.build [.int .i64 0, .int .i64 0, .int .i64 0, .lit (.slice none 0 0), .lit (.slice none 0 0)] []), zS 5 4 25, W1 5 (.mv (zI 1))]) (.ret)
def k60_1 : ACode := .region [zF 40 3 8, zM 41 40, zV 42 9, W1 43 (.ixs 5 (.t 41) (.t 42)), zF 44 4 43, ⟨none, .st 1 (.t 44) (zI (-1)), none⟩]
def k60_2 : ACode := .seq (.block 1 ( .seq (.region [zV 39 37, zV 9 39]) k60_1)) (.region [W1 45 (.bin .add (.t 37) (zI 1)), zV 37 45])
def b60_3 : ACode := .seq (.region [W1 38 (.bin .lss (.t 37) (.t 36))]) (.seq (.cond (.t 38) (.skip) (.exit 0)) k60_2)
def k60_4 : ACode := .region [zF 83 3 8, zM 84 83, zV 85 12, W1 86 (.bin .add (.t 85) (zI 1)), W1 87 (.build [.int .i64 0, .int .i64 0, .int .i64 0, .int .i64 0] [(0, 1, (zI 3)), (1, 1, (zI 1)), (2, 1, (zI 7))]), zV 88 10, W1 89 (.bin .add (.t 88) (zI 1)), W1 90 (.build [.int .i64 0, .int .i64 0, .int .i64 0, .int .i64 0, .int .i64 0] [(0, 4, (.t 87)), (4, 1, (.t 89))]), W1 91 (.ixs 5 (.t 84) (.t 86)), zS 5 91 90]
def k60_5 : ACode := .seq (.drawn [(0, zF 74 4 8), (1, zM 75 74), (4, zV 78 12), (5, W1 79 (.call 128 [(zI 2), (zI 3), (.t 78)])), (2, zV 76 11), (3, W1 77 (.bin .add (zI 2) (.t 76))), (6, zV 73 79), (7, zE 80 73 0), (9, W1 82 (.ixs 13 (.t 75) (.t 77))), (10, zS 13 82 80), (8, zE 81 73 1)] [[], [0], [], [2], [], [4], [5], [6], [6], [1, 3, 0, 1, 2, 3, 4, 5, 6, 7], [9, 7, 5, 0, 1, 2, 3, 4, 5, 6, 7]] 0) k60_4
def k60_6 : ACode := .seq (.region [zL 70 3 2, zV 71 11, W1 72 (.call 129 [(.t 70), (.t 71)]), zV 12 72]) k60_5
def k60_7 : ACode := .seq (.block 3 ( .seq (.region [zV 69 67, zV 11 69]) k60_6)) (.region [W1 92 (.bin .add (.t 67) (zI 1)), zV 67 92])
def b60_8 : ACode := .seq (.region [W1 68 (.bin .lss (.t 67) (.t 66))]) (.seq (.cond (.t 68) (.skip) (.exit 2)) k60_7)
def k60_9 : ACode := .seq (.region [zL 99 5 8, zS 5 4 99, W1 5 (.mv (zI 0))]) (.ret)
def k60_10 : ACode := .seq (.region [zF 93 3 8, zM 94 93, zV 95 10, W1 96 (.bin .add (.t 95) (zI 1)), W1 97 (.ixs 5 (.t 94) (.t 96)), zF 98 4 97, ⟨none, .st 1 (.t 98) (zI (-1)), none⟩]) k60_9
def k60_11 : ACode := .seq (.seq (.region [zF 65 0 2, zM 66 65, W1 67 (.mv (zI 0))]) (.block 2 ( .loop b60_8))) k60_10
def k60_12 : ACode := .seq (.region [zF 59 3 8, zM 60 59, zV 61 10, W1 62 (.build [.int .i64 0, .int .i64 0, .int .i64 0, .int .i64 0] [(0, 1, (zI 1)), (1, 1, (zI 0)), (2, 1, (zI 7))]), W1 63 (.ixs 5 (.t 60) (.t 61)), zF 64 0 63, zS 4 64 62]) k60_11
def k60_13 : ACode := .seq (.region [zL 57 3 2, W1 58 (.call 129 [(.t 57), (zI 0)]), zV 10 58]) k60_12
def k60_14 : ACode := .seq (.drawn [(0, zF 51 4 8), (1, zM 52 51), (2, W1 53 (.call 128 [(zI 3), (zI 0), (zI 0)])), (3, zV 50 53), (4, zE 54 50 0), (6, W1 56 (.ixs 13 (.t 52) (zI 1))), (7, zS 13 56 54), (5, zE 55 50 1)] [[], [0], [], [2], [3], [3], [1, 0, 1, 2, 3, 4], [6, 4, 2, 0, 1, 2, 3, 4]] 0) k60_13
def k60_15 : ACode := .seq (.region [zF 46 4 8, zM 47 46, zL 48 13 6, W1 49 (.ixs 13 (.t 47) (zI 0)), zS 13 49 48]) k60_14
def k60_16 : ACode := .seq (.seq (.region [zF 34 3 8, zM 35 34, W1 36 (.len false (.t 35)), W1 37 (.mv (zI 0))]) (.block 0 ( .loop b60_3))) k60_15
def k60_17 : ACode := .seq (.drawn [(0, zL 26 3 2), (1, zF 27 1 2), (2, zM 28 27), (4, zF 30 2 2), (5, zM 31 30), (3, W1 29 (.born 0 (.mks 5 40 [.int .i64 0, .int .i64 0, .int .i64 0, .int .i64 0, .int .i64 0] (.t 28) (.t 28)))), (6, W1 32 (.born 1 (.mks 13 104 [.int .i64 0, .int .i64 0, .int .i64 0, .int .i64 0, .int .i64 0, .int .i64 0, .int .i64 0, .bool false, .int .u64 0, .int .u64 0, .int .u64 0, .int .u64 0, .int .u64 0] (.t 31) (.t 31)))),
 (7, W1 33 (.build [.int .i64 0, .int .i64 0, .int .i64 0, .lit (.slice none 0 0), .lit (.slice none 0 0)] [(0, 3, (.t 26)), (3, 1, (.t 29)), (4, 1, (.t 32))])), (8, W1 8 (.born 2 (.new [.int .i64 0, .int .i64 0, .int .i64 0, .lit (.slice none 0 0), .lit (.slice none 0 0)]))), (9, zS 5 8 33)] [[], [], [1], [2, 2], [], [4], [5, 5], [0, 3, 6], [], [8, 7, 0, 1, 2, 3, 4, 5, 6, 7, 8]] 3) k60_16
def k60_18 : ACode := .seq (.seq (.region [zL 18 3 2, W1 19 (.call 70 [(.t 18)]), zN 20 19, zV 21 20, zU 22 7 21 false, W2 23 21 false (.un .not (.t 22)), W1 24 (.pick (.t 21) (.c (.bool true)) (.t 23))]) (.cond (.t 24) k60_0 (.skip))) k60_17
def k60_19 : ACode := .seq (.region [zV 14 1, W1 15 (.call 128 [(zI 1), (.t 14), (zI 0)]), zV 13 15, zE 16 13 0, zE 17 13 1, W1 6 (.new [.int .i64 0, .int .i64 0, .int .i64 0, .int .i64 0, .int .i64 0, .int .i64 0, .int .i64 0, .bool false, .int .u64 0, .int .u64 0, .int .u64 0, .int .u64 0, .int .u64 0]), zS 13 6 16, zV 7 17]) k60_18
def c60 : ACode := .seq (.region [W1 2 (.box (.t 0)), W1 4 (.new [.int .i64 0, .int .i64 0, .int .i64 0, .lit (.slice none 0 0), .lit (.slice none 0 0)]), W1 5 (.mv (zI 0))]) k60_19
theorem ok60 : fnOk Tryz.prog 60 c60 100 [.c 4 (some 5), .t 5] = true := by kernel_rfl
def w60 := aW k60_0.eq_1 (aW k60_1.eq_1 (aW k60_2.eq_1 (aW k60_4.eq_1 (aW k60_5.eq_1 (aW k60_6.eq_1 (aW k60_7.eq_1 (aW k60_9.eq_1 (aW k60_10.eq_1 (aW k60_11.eq_1 (aW k60_12.eq_1 (aW k60_13.eq_1 (aW k60_14.eq_1 (aW k60_15.eq_1 (aW k60_16.eq_1 (aW k60_17.eq_1 (aW k60_18.eq_1 (oW k60_19.eq_1)))))))))))))))))
def k65_0 : ACode := .seq (.region [W1 21 (.build [.int .i64 0, .int .i64 0, .int .i64 0, .int .i64 0] []), zV 22 10, W1 6 (.mv (zI 0)), zS 4 7 21, zV 8 22]) (.ret)
def k65_1 : ACode := .seq (.region [W1 31 (.build [.int .i64 0, .int .i64 0, .int .i64 0, .int .i64 0] []), W1 6 (.mv (zI 0)), zS 4 7 31, W1 8 (.mv (zI 4))]) (.ret)
def k65_2 : ACode := .seq (.region [zF 24 3 3, zM 25 24, zV 26 9, W1 27 (.ixs 5 (.t 25) (.t 26)), zF 28 0 27, zL 29 4 28, W1 30 (.call 59 [(.t 29)]), zV 23 30]) (.cond (.t 23) k65_1 (.skip))
def k65_3 : ACode := .seq (.drawn [(1, zF 33 3 3), (2, zM 34 33), (3, zV 35 9), (4, W1 36 (.ixs 5 (.t 34) (.t 35))), (5, zF 37 0 36), (6, zL 38 4 37), (0, zV 32 9), (7, zV 6 32), (8, zS 4 7 38), (9, W1 8 (.mv (zI 0)))] [[], [], [1], [], [2, 3], [4], [5], [0, 0], [6, 7, 0, 1, 2, 3, 4, 5, 6, 7], [8, 0, 1, 2, 3, 4, 5, 6, 7, 8]] 0) (.ret)
def k65_4 : ACode := .seq (.block 0 ( .seq (.region [zV 19 10, W1 20 (.bin .neq (.t 19) (zI 0)), zV 18 20]) (.cond (.t 18) k65_0 k65_2))) k65_3
def k65_5 : ACode := .seq (.region [zL 12 5 3, zV 13 1, zL 14 1 5, W1 15 (.call 134 [(.t 12), (.t 13), (.t 14)]), zV 11 15, zE 16 11 0, zE 17 11 1, zV 9 16, zV 10 17]) k65_4
def c65 : ACode := .seq (.region [W1 3 (.box (.t 0)), W1 5 (.box (.t 2)), W1 6 (.mv (zI 0)), W1 7 (.new [.int .i64 0, .int .i64 0, .int .i64 0, .int .i64 0]), W1 8 (.mv (zI 0))]) k65_5
theorem ok65 : fnOk Tryz.prog 65 c65 39 [.t 6, .c 7 (some 4), .t 8] = true := by kernel_rfl
def w65 := aW k65_0.eq_1 (aW k65_1.eq_1 (aW k65_2.eq_1 (aW k65_3.eq_1 (aW k65_4.eq_1 (oW k65_5.eq_1)))))
def k67_0 : ACode := .cond (.t 6) (.seq (.region [W1 4 (.mv (.c (.bool true)))]) (.ret)) (.skip)
def k67_1 : ACode := .seq (.region [zF 7 0 2, zM 8 7, zF 9 0 3, zM 10 9, W1 11 (.bin .eql (.t 8) (.t 10)), zV 12 11, W2 13 12 true (.fld 1 (.t 2)), W2 14 12 true (.ld none (.t 13)), W2 15 12 true (.fld 1 (.t 3)), W2 16 12 true (.ld none (.t 15)), W2 17 12 true (.bin .eql (.t 14) (.t 16)), W1 18 (.pick (.t 12) (.t 17) (.c (.bool false))), zV 19 18, W2 20 19 true (.fld 2 (.t 2)),
 W2 21 19 true (.ld none (.t 20)), W2 22 19 true (.fld 2 (.t 3)), W2 23 19 true (.ld none (.t 22)), W2 24 19 true (.call 80 [(.t 21), (.t 23)]), W1 25 (.pick (.t 19) (.t 24) (.c (.bool false))), zV 26 25, W2 27 26 true (.fld 3 (.t 3)), W2 28 26 true (.ld none (.t 27)), W2 29 26 true (.bin .eql (.t 28) (zI 0)), zU 30 29 26 true, W2 31 30 false (.fld 3 (.t 3)), W2 32 30 false (.ld none (.t 31)),
 W2 33 30 false (.fld 3 (.t 2)), W2 34 30 false (.ld none (.t 33)), W2 35 30 false (.bin .eql (.t 32) (.t 34)), W2 36 26 true (.pick (.t 30) (.c (.bool true)) (.t 35)), W1 37 (.pick (.t 26) (.t 36) (.c (.bool false))), zV 4 37]) (.ret)
def k67_2 : ACode := .seq (.seq (.region [zL 5 4 2, W1 6 (.call 59 [(.t 5)])]) k67_0) k67_1
def c67 : ACode := .seq (.region [W1 2 (.box (.t 0)), W1 3 (.box (.t 1)), W1 4 (.mv (.c (.bool false)))]) k67_2
theorem ok67 : fnOk Tryz.prog 67 c67 38 [.t 4] = true := by kernel_rfl
def w67 := aW k67_0.eq_1 (aW k67_1.eq_1 (oW k67_2.eq_1))
def k70_0 : ACode := .seq (.region [zF 3 0 1, zM 4 3, W1 5 (.call 140 [(.t 4), (zI 1), (zI 4)]), zV 6 5, W2 7 6 true (.fld 1 (.t 1)), W2 8 6 true (.ld none (.t 7)), W2 9 6 true (.fld 0 (.t 1)), W2 10 6 true (.ld none (.t 9)), W2 11 6 true (.bin .mul (zI 8) (.t 10)), W2 12 6 true (.call 140 [(.t 8), (.t 11), (zI 96)]), W1 13 (.pick (.t 6) (.t 12) (.c (.bool false))), zV 14 13,
 W2 15 14 true (.fld 1 (.t 1)), W2 16 14 true (.ld none (.t 15)), W2 17 14 true (.bin .rem (.t 16) (zI 8)), W2 18 14 true (.bin .eql (.t 17) (zI 0)), W1 19 (.pick (.t 14) (.t 18) (.c (.bool false))), zV 20 19, W2 21 20 true (.fld 2 (.t 1)), W2 22 20 true (.ld none (.t 21)), W2 23 20 true (.fld 0 (.t 1)), W2 24 20 true (.ld none (.t 23)), W2 25 20 true (.bin .add (.t 24) (zI 2)),
 W2 26 20 true (.call 140 [(.t 22), (.t 25), (zI 48)]), W1 27 (.pick (.t 20) (.t 26) (.c (.bool false))), zV 2 27]) (.ret)
def c70 : ACode := .seq (.region [W1 1 (.box (.t 0)), W1 2 (.mv (.c (.bool false)))]) k70_0
theorem ok70 : fnOk Tryz.prog 70 c70 28 [.t 2] = true := by kernel_rfl
def k71_0 : ACode := .region [zL 27 4 5, W1 28 (.call 59 [(.t 27)]), zN 29 28, zV 30 29, W2 31 30 true (.fld 4 (.t 4)), W2 32 30 true (.ld none (.t 31)), W2 33 30 true (.bin .lss (.t 32) (zI (-1))), W1 34 (.pick (.t 30) (.t 33) (.c (.bool false))), zV 19 34]
def k71_1 : ACode := .cond (.t 35) (.seq (.region [W1 2 (.mv (.c (.bool false)))]) (.ret)) (.skip)
def k71_2 : ACode := .seq (.drawn [(0, zL 36 4 5), (1, W1 37 (.call 59 [(.t 36)])), (2, zN 38 37), (3, zV 39 38), (4, W2 40 39 true (.ld (some 5) (.t 1))), (5, W2 41 39 true (.fld 1 (.t 5))), (6, W2 42 39 true (.ld none (.t 41))), (7, W2 43 39 true (.call 142 [(.t 40), (.t 42)])), (8, W2 44 39 true (.un .not (.t 43))), (9, zU 45 44 39 true), (10, W2 46 45 false (.fld 4 (.t 1))),
 (11, W2 47 45 false (.ld none (.t 46))), (12, W2 48 45 false (.fld 1 (.t 5))), (13, W2 49 45 false (.ld none (.t 48))), (14, W2 50 45 false (.ixs 13 (.t 47) (.t 49))), (15, W2 51 45 false (.fld 0 (.t 50))), (16, W2 52 45 false (.ld none (.t 51))), (17, W2 53 45 false (.fld 0 (.t 5))), (18, W2 54 45 false (.ld none (.t 53))), (19, W2 55 45 false (.bin .neq (.t 52) (.t 54))),
 (20, W2 56 39 true (.pick (.t 45) (.c (.bool true)) (.t 55))), (21, W1 57 (.pick (.t 39) (.t 56) (.c (.bool false)))), (22, zV 35 57)] [[], [0], [1], [2, 1], [3], [3], [5, 3], [4, 6, 3, 3], [7, 3], [8, 7, 3], [9], [10, 9], [9], [12, 9], [11, 13, 9], [14, 9], [15, 9], [9], [17, 9], [16, 18, 9], [9, 19, 3], [3, 20], [21, 9]] 0) k71_1
def k71_3 : ACode := .cond (.t 19) (.seq (.region [W1 2 (.mv (.c (.bool false)))]) (.ret)) k71_2
def k71_4 : ACode := .seq (.seq (.region [zL 20 4 5, W1 21 (.call 59 [(.t 20)]), zV 22 21, W2 23 22 true (.fld 4 (.t 4)), W2 24 22 true (.ld none (.t 23)), W2 25 22 true (.bin .neq (.t 24) (zI (-1))), W1 26 (.pick (.t 22) (.t 25) (.c (.bool false))), zV 19 26]) (.cond (.t 19) (.skip) k71_0)) k71_3
def k71_5 : ACode := .cond (.t 15) (.seq (.region [W1 2 (.mv (.c (.bool false)))]) (.ret)) k71_4
def k71_6 : ACode := .block 2 ( .seq (.region [zL 16 4 5, W1 17 (.call 141 [(.t 16)]), zN 18 17, zV 15 18]) k71_5)
def k71_7 : ACode := .seq (.region [zF 13 0 4, zL 14 4 13, W1 5 (.new [.int .i64 0, .int .i64 0, .int .i64 0, .int .i64 0]), zS 4 5 14]) k71_6
def k71_8 : ACode := .seq (.block 1 ( .seq (.region [W1 11 (.ixs 5 (.t 7) (.t 9)), zL 12 5 11, W1 4 (.new [.int .i64 0, .int .i64 0, .int .i64 0, .int .i64 0, .int .i64 0]), zS 5 4 12]) k71_7)) (.region [W1 58 (.bin .add (.t 9) (zI 1)), zV 9 58])
def b71_9 : ACode := .seq (.region [W1 10 (.bin .lss (.t 9) (.t 8))]) (.seq (.cond (.t 10) (.skip) (.exit 0)) k71_8)
def k71_10 : ACode := .seq (.seq (.region [zF 6 3 1, zM 7 6, W1 8 (.len false (.t 7)), W1 9 (.mv (zI 0))]) (.block 0 ( .loop b71_9))) (.seq (.region [W1 2 (.mv (.c (.bool true)))]) (.ret))
def c71 : ACode := .seq (.region [W1 1 (.box (.t 0)), W1 2 (.mv (.c (.bool false)))]) k71_10
theorem ok71 : fnOk Tryz.prog 71 c71 59 [.t 2] = true := by kernel_rfl
def w71 := aW k71_0.eq_1 (aW k71_1.eq_1 (aW k71_2.eq_1 (aW k71_3.eq_1 (aW k71_4.eq_1 (aW k71_5.eq_1 (aW k71_6.eq_1 (aW k71_7.eq_1 (aW k71_8.eq_1 (oW k71_10.eq_1)))))))))
def k72_0 : ACode := .cond (.t 16) (.seq (.region [W1 2 (.mv (.c (.bool false)))]) (.ret)) (.skip)
def k72_1 : ACode := .cond (.t 38) (.seq (.region [W1 2 (.mv (.c (.bool false)))]) (.ret)) (.skip)
def k72_2 : ACode := .cond (.t 59) (.seq (.region [W1 2 (.mv (.c (.bool false)))]) (.ret)) (.skip)
def k72_3 : ACode := .cond (.t 73) (.seq (.region [W1 2 (.mv (.c (.bool false)))]) (.ret)) (.skip)
def k72_4 : ACode := .seq (.region [zV 60 5, zN 61 60, zV 62 61, W2 63 62 true (.fld 0 (.t 4)), W2 64 62 true (.ld none (.t 63)), W2 65 62 true (.bin .neq (.t 64) (zI 0)), W1 66 (.pick (.t 62) (.t 65) (.c (.bool false))), zV 67 66, W2 68 67 true (.ld (some 5) (.t 1)), zU 69 3 67 true, W2 70 67 true (.call 144 [(.t 68), (.t 69)]), W2 71 67 true (.len false (.t 70)),
 W2 72 67 true (.bin .eql (.t 71) (zI 0)), W1 73 (.pick (.t 67) (.t 72) (.c (.bool false)))]) k72_3
def k72_5 : ACode := .seq (.seq (.drawn [(0, zV 49 5), (1, zV 50 49), (2, W2 51 50 true (.ld (some 13) (.t 4))), (3, W2 52 50 true (.fld 0 (.t 1))), (4, W2 53 50 true (.ld (some 3) (.t 52))), (5, zU 54 3 50 true), (6, W2 55 50 true (.bin .sub (.t 54) (zI 2))), (7, W2 56 50 true (.call 129 [(.t 53), (.t 55)])),
 (8, W2 57 50 true (.build [.int .i64 0, .int .i64 0, .int .i64 0, .int .i64 0, .int .i64 0, .int .i64 0, .int .i64 0, .bool false, .int .u64 0, .int .u64 0, .int .u64 0, .int .u64 0, .int .u64 0] [(0, 1, (zI 2)), (1, 1, (zI 3)), (2, 1, (.t 56))])), (9, W2 58 50 true (.eqs true [0, 0, 0, 0, 0, 0, 0, 1, 0, 0, 0, 0, 0] (.t 51) (.t 57))), (10, W1 59 (.pick (.t 50) (.t 58) (.c (.bool false))))] [[], [0], [1], [1], [3, 1], [1], [5, 1], [4, 6, 1, 1], [7, 1], [2, 8, 1], [1, 9]] 0) k72_2) k72_4
def k72_6 : ACode := .seq (.region [zV 39 3, W1 40 (.bin .geq (.t 39) (zI 2)), zV 41 40, zU 42 3 41 true, W2 43 41 true (.fld 0 (.t 1)), W2 44 41 true (.fld 0 (.t 43)), W2 45 41 true (.ld none (.t 44)), W2 46 41 true (.bin .add (zI 2) (.t 45)), W2 47 41 true (.bin .lss (.t 42) (.t 46)), W1 48 (.pick (.t 41) (.t 47) (.c (.bool false))), zV 5 48]) k72_5
def k72_7 : ACode := .seq (.seq (.region [zF 17 5 4, zM 18 17, W1 19 (.bin .gtr (.t 18) (zI 0)), zV 20 19, W2 21 20 true (.fld 5 (.t 4)), W2 22 20 true (.ld none (.t 21)), W2 23 20 true (.fld 3 (.t 1)), W2 24 20 true (.ld none (.t 23)), W2 25 20 true (.len false (.t 24)), W2 26 20 true (.bin .gtr (.t 22) (.t 25)), zU 27 26 20 true, W2 28 27 false (.fld 3 (.t 1)),
 W2 29 27 false (.ld none (.t 28)), W2 30 27 false (.fld 5 (.t 4)), W2 31 27 false (.ld none (.t 30)), W2 32 27 false (.bin .sub (.t 31) (zI 1)), W2 33 27 false (.ixs 5 (.t 29) (.t 32)), W2 34 27 false (.fld 0 (.t 33)), W2 35 27 false (.ld (some 4) (.t 34)), W2 36 27 false (.call 59 [(.t 35)]), W2 37 20 true (.pick (.t 27) (.c (.bool true)) (.t 36)), W1 38 (.pick (.t 20) (.t 37) (.c (.bool false)))]) k72_1) k72_6
def k72_8 : ACode := .seq (.seq (.region [zL 14 13 4, W1 15 (.call 143 [(.t 14)]), zN 16 15]) k72_0) k72_7
def k72_9 : ACode := .seq (.block 1 ( .seq (.region [zV 11 9, W1 12 (.ixs 13 (.t 7) (.t 9)), zL 13 13 12, W1 4 (.new [.int .i64 0, .int .i64 0, .int .i64 0, .int .i64 0, .int .i64 0, .int .i64 0, .int .i64 0, .bool false, .int .u64 0, .int .u64 0, .int .u64 0, .int .u64 0, .int .u64 0]), zV 3 11, zS 13 4 13]) k72_8)) (.region [W1 74 (.bin .add (.t 9) (zI 1)), zV 9 74])
def b72_10 : ACode := .seq (.region [W1 10 (.bin .lss (.t 9) (.t 8))]) (.seq (.cond (.t 10) (.skip) (.exit 0)) k72_9)
def k72_11 : ACode := .seq (.seq (.region [zF 6 4 1, zM 7 6, W1 8 (.len false (.t 7)), W1 9 (.mv (zI 0))]) (.block 0 ( .loop b72_10))) (.seq (.region [W1 2 (.mv (.c (.bool true)))]) (.ret))
def c72 : ACode := .seq (.region [W1 1 (.box (.t 0)), W1 2 (.mv (.c (.bool false)))]) k72_11
theorem ok72 : fnOk Tryz.prog 72 c72 75 [.t 2] = true := by kernel_rfl
def w72 := aW k72_0.eq_1 (aW k72_1.eq_1 (aW k72_2.eq_1 (aW k72_3.eq_1 (aW k72_4.eq_1 (aW k72_5.eq_1 (aW k72_6.eq_1 (aW k72_7.eq_1 (aW k72_8.eq_1 (aW k72_9.eq_1 (oW k72_11.eq_1))))))))))
def k73_0 : ACode := .cond (.t 43) (.seq (.region [W1 2 (.mv (.c (.bool false)))]) (.ret)) (.skip)
def k73_1 : ACode := .region [zV 44 3, zV 45 7, W1 46 (.ixs 1 (.t 44) (.t 45)), ⟨none, .st 1 (.t 46) (.c (.bool true)), none⟩]
def k73_2 : ACode := .seq (.seq (.region [zV 34 7, zV 35 3, W1 36 (.len false (.t 35)), W1 37 (.bin .geq (.t 34) (.t 36)), zV 38 37, zU 39 3 38 false, zU 40 7 38 false, W2 41 38 false (.ixs 1 (.t 39) (.t 40)), W2 42 38 false (.ld none (.t 41)), W1 43 (.pick (.t 38) (.c (.bool true)) (.t 42))]) k73_0) k73_1
def k73_3 : ACode := .seq (.region [zF 30 2 5, zM 31 30, zV 32 6, W1 33 (.bin .add (.t 31) (.t 32)), zV 7 33]) k73_2
def k73_4 : ACode := .seq (.block 3 ( .seq (.region [zV 29 27, zV 6 29]) k73_3)) (.region [W1 47 (.bin .add (.t 27) (zI 1)), zV 27 47])
def b73_5 : ACode := .seq (.region [W1 28 (.bin .lss (.t 27) (.t 26))]) (.seq (.cond (.t 28) (.skip) (.exit 2)) k73_4)
def k73_6 : ACode := .seq (.region [zF 24 1 5, zM 25 24, W1 26 (.bin .shl (zI 1) (.t 25)), W1 27 (.mv (zI 0))]) (.block 2 ( .loop b73_5))
def k73_7 : ACode := .seq (.seq (.region [zF 21 0 5, zM 22 21, W1 23 (.bin .neq (.t 22) (zI 2))]) (.cond (.t 23) (.exit 1) (.skip))) k73_6
def k73_8 : ACode := .seq (.block 1 ( .seq (.region [W1 19 (.ixs 13 (.t 15) (.t 17)), zL 20 13 19, W1 5 (.new [.int .i64 0, .int .i64 0, .int .i64 0, .int .i64 0, .int .i64 0, .int .i64 0, .int .i64 0, .bool false, .int .u64 0, .int .u64 0, .int .u64 0, .int .u64 0, .int .u64 0]), zS 13 5 20]) k73_7)) (.region [W1 48 (.bin .add (.t 17) (zI 1)), zV 17 48])
def b73_9 : ACode := .seq (.region [W1 18 (.bin .lss (.t 17) (.t 16))]) (.seq (.cond (.t 18) (.skip) (.exit 0)) k73_8)
def k73_10 : ACode := .cond (.t 67) (.seq (.region [W1 2 (.mv (.c (.bool false)))]) (.ret)) (.skip)
def k73_11 : ACode := .seq (.region [zV 57 3, zV 58 8, W1 59 (.ixs 1 (.t 57) (.t 58)), zM 60 59, zN 61 60, zV 62 61, W2 63 62 true (.fld 0 (.t 9)), W2 64 62 true (.ld (some 4) (.t 63)), W2 65 62 true (.call 59 [(.t 64)]), W2 66 62 true (.un .not (.t 65)), W1 67 (.pick (.t 62) (.t 66) (.c (.bool false)))]) k73_10
def k73_12 : ACode := .seq (.block 5 ( .seq (.region [zV 54 52, W1 55 (.ixs 5 (.t 50) (.t 52)), zL 56 5 55, W1 9 (.new [.int .i64 0, .int .i64 0, .int .i64 0, .int .i64 0, .int .i64 0]), zV 8 54, zS 5 9 56]) k73_11)) (.region [W1 68 (.bin .add (.t 52) (zI 1)), zV 52 68])
def b73_13 : ACode := .seq (.region [W1 53 (.bin .lss (.t 52) (.t 51))]) (.seq (.cond (.t 53) (.skip) (.exit 4)) k73_12)
def k73_14 : ACode := .seq (.seq (.region [zF 49 3 1, zM 50 49, W1 51 (.len false (.t 50)), W1 52 (.mv (zI 0))]) (.block 4 ( .loop b73_13))) (.seq (.region [W1 2 (.mv (.c (.bool true)))]) (.ret))
def k73_15 : ACode := .seq (.seq (.region [zF 14 4 1, zM 15 14, W1 16 (.len false (.t 15)), W1 17 (.mv (zI 0))]) (.block 0 ( .loop b73_9))) k73_14
def k73_16 : ACode := .seq (.region [zF 10 3 1, zM 11 10, W1 12 (.len false (.t 11)), W1 13 (.mks 1 1 [.bool false] (.t 12) (.t 12)), zV 3 13]) k73_15
def c73 : ACode := .seq (.region [W1 1 (.box (.t 0)), W1 2 (.mv (.c (.bool false)))]) k73_16
theorem ok73 : fnOk Tryz.prog 73 c73 69 [.t 2] = true := by kernel_rfl
def w73 := aW k73_0.eq_1 (aW k73_1.eq_1 (aW k73_2.eq_1 (aW k73_3.eq_1 (aW k73_4.eq_1 (aW k73_6.eq_1 (aW k73_7.eq_1 (aW k73_8.eq_1 (aW k73_10.eq_1 (aW k73_11.eq_1 (aW k73_12.eq_1 (aW k73_14.eq_1 (aW k73_15.eq_1 (oW k73_16.eq_1)))))))))))))
def k74_0 : ACode := .cond (.t 24) (.seq (.region [W1 2 (.mv (.c (.bool true)))]) (.ret)) (.skip)
def k74_1 : ACode := .seq (.region [zF 13 0 4, zF 14 0 13, zM 15 14, W1 16 (.bin .eql (.t 15) (zI 2)), zV 17 16, W2 18 17 true (.ld (some 5) (.t 1)), W2 19 17 true (.fld 0 (.t 4)), W2 20 17 true (.fld 1 (.t 19)), W2 21 17 true (.ld none (.t 20)), zU 22 3 17 true, W2 23 17 true (.call 145 [(.t 18), (.t 21), (.t 22)]), W1 24 (.pick (.t 17) (.t 23) (.c (.bool false)))]) k74_0
def k74_2 : ACode := .seq (.block 1 ( .seq (.region [zV 10 8, W1 11 (.ixs 5 (.t 6) (.t 8)), zL 12 5 11, W1 4 (.new [.int .i64 0, .int .i64 0, .int .i64 0, .int .i64 0, .int .i64 0]), zV 3 10, zS 5 4 12]) k74_1)) (.region [W1 25 (.bin .add (.t 8) (zI 1)), zV 8 25])
def b74_3 : ACode := .seq (.region [W1 9 (.bin .lss (.t 8) (.t 7))]) (.seq (.cond (.t 9) (.skip) (.exit 0)) k74_2)
def k74_4 : ACode := .seq (.seq (.region [zF 5 3 1, zM 6 5, W1 7 (.len false (.t 6)), W1 8 (.mv (zI 0))]) (.block 0 ( .loop b74_3))) (.seq (.region [W1 2 (.mv (.c (.bool false)))]) (.ret))
def c74 : ACode := .seq (.region [W1 1 (.box (.t 0)), W1 2 (.mv (.c (.bool false)))]) k74_4
theorem ok74 : fnOk Tryz.prog 74 c74 26 [.t 2] = true := by kernel_rfl
def w74 := aW k74_0.eq_1 (aW k74_1.eq_1 (aW k74_2.eq_1 (oW k74_4.eq_1)))
def k75_0 : ACode := .cond (.t 11) (.seq (.region [W1 2 (.mv (.c (.bool false)))]) (.ret)) (.skip)
def k75_1 : ACode := .cond (.t 30) (.seq (.region [W1 2 (.mv (.c (.bool false)))]) (.ret)) (.skip)
def k75_2 : ACode := .seq (.region [zV 19 4, W1 20 (.bin .neq (.t 19) (zI (-2))), zV 21 20, zU 22 4 21 true, W2 23 21 true (.bin .neq (.t 22) (zI (-1))), W1 24 (.pick (.t 21) (.t 23) (.c (.bool false))), zV 25 24, W2 26 25 true (.ld (some 1) (.t 1)), zU 27 4 25 true, W2 28 25 true (.call 146 [(.t 26), (.t 27)]), W2 29 25 true (.un .not (.t 28)), W1 30 (.pick (.t 25) (.t 29) (.c (.bool false)))]) k75_1
def k75_3 : ACode := .seq (.block 1 ( .seq (.region [W1 17 (.ixs 1 (.t 13) (.t 15)), zM 18 17, zV 4 18]) k75_2)) (.region [W1 31 (.bin .add (.t 15) (zI 1)), zV 15 31])
def b75_4 : ACode := .seq (.region [W1 16 (.bin .lss (.t 15) (.t 14))]) (.seq (.cond (.t 16) (.skip) (.exit 0)) k75_3)
def k75_5 : ACode := .cond (.t 51) (.seq (.region [W1 2 (.mv (.c (.bool false)))]) (.ret)) (.skip)
def k75_6 : ACode := .region [zF 42 0 1, zM 43 42, zV 44 7, W1 45 (.ixs 1 (.t 43) (.t 44)), zM 46 45, zV 7 46]
def k75_7 : ACode := .seq (.block 5 ( .seq (.seq (.region [zV 47 6, zF 48 0 1, zM 49 48, W1 50 (.len false (.t 49)), W1 51 (.bin .gtr (.t 47) (.t 50))]) k75_5) (.region [zV 52 6, W1 53 (.bin .add (.t 52) (zI 1)), zV 6 53]))) k75_6
def b75_8 : ACode := .seq (.seq (.region [zL 39 1 1, zV 40 7, W1 41 (.call 146 [(.t 39), (.t 40)])]) (.cond (.t 41) (.skip) (.exit 4))) k75_7
def k75_9 : ACode := .seq (.region [zV 38 5, zV 7 38]) (.block 4 ( .loop b75_8))
def k75_10 : ACode := .seq (.block 3 ( .seq (.region [zV 37 35, zV 5 37]) (.seq (.region [W1 6 (.mv (zI 0))]) k75_9))) (.region [W1 54 (.bin .add (.t 35) (zI 1)), zV 35 54])
def b75_11 : ACode := .seq (.region [W1 36 (.bin .lss (.t 35) (.t 34))]) (.seq (.cond (.t 36) (.skip) (.exit 2)) k75_10)
def k75_12 : ACode := .seq (.seq (.region [zF 32 0 1, zM 33 32, W1 34 (.len false (.t 33)), W1 35 (.mv (zI 0))]) (.block 2 ( .loop b75_11))) (.seq (.region [W1 2 (.mv (.c (.bool true)))]) (.ret))
def k75_13 : ACode := .seq (.seq (.region [zF 12 0 1, zM 13 12, W1 14 (.len false (.t 13)), W1 15 (.mv (zI 0))]) (.block 0 ( .loop b75_4))) k75_12
def k75_14 : ACode := .seq (.seq (.region [zF 8 0 1, zM 9 8, W1 10 (.len false (.t 9)), W1 11 (.bin .gtr (.t 10) (zI 96))]) k75_0) k75_13
def c75 : ACode := .seq (.region [W1 1 (.box (.t 0)), W1 2 (.mv (.c (.bool false)))]) k75_14
theorem ok75 : fnOk Tryz.prog 75 c75 55 [.t 2] = true := by kernel_rfl
def w75 := aW k75_0.eq_1 (aW k75_1.eq_1 (aW k75_2.eq_1 (aW k75_3.eq_1 (aW k75_5.eq_1 (aW k75_6.eq_1 (aW k75_7.eq_1 (aW k75_9.eq_1 (aW k75_10.eq_1 (aW k75_12.eq_1 (aW k75_13.eq_1 (oW k75_14.eq_1)))))))))))
def k76_0 : ACode := .cond (.t 15) (.region [zF 16 4 5, ⟨none, .st 1 (.t 16) (zI (-2)), none⟩]) (.skip)
def k76_1 : ACode := .region [zF 17 0 3, zM 18 17, zF 19 4 5, zM 20 19, W1 21 (.bsl 1 1 [.int .i64 0] [(0, (.t 20))]), W1 22 (.app 1 8 (.t 18) (.t 21)), zF 23 0 3, zS 1 23 22]
def k76_2 : ACode := .seq (.seq (.region [zF 13 0 5, zL 14 4 13, W1 15 (.call 59 [(.t 14)])]) k76_0) k76_1
def k76_3 : ACode := .seq (.block 1 ( .seq (.region [W1 11 (.ixs 5 (.t 7) (.t 9)), zL 12 5 11, W1 5 (.new [.int .i64 0, .int .i64 0, .int .i64 0, .int .i64 0, .int .i64 0]), zS 5 5 12]) k76_2)) (.region [W1 24 (.bin .add (.t 9) (zI 1)), zV 9 24])
def b76_4 : ACode := .seq (.region [W1 10 (.bin .lss (.t 9) (.t 8))]) (.seq (.cond (.t 10) (.skip) (.exit 0)) k76_3)
def k76_5 : ACode := .seq (.seq (.region [zF 6 3 1, zM 7 6, W1 8 (.len false (.t 7)), W1 9 (.mv (zI 0))]) (.block 0 ( .loop b76_4))) (.seq (.region [zL 25 1 3, zS 1 2 25]) (.ret))
def c76 : ACode := .seq (.region [W1 1 (.box (.t 0)), W1 2 (.new [.lit (.slice none 0 0)])]) (.seq (.region [W1 3 (.new [.lit (.slice none 0 0)])]) k76_5)
theorem ok76 : fnOk Tryz.prog 76 c76 26 [.c 2 (some 1)] = true := by kernel_rfl
def w76 := aW k76_0.eq_1 (aW k76_1.eq_1 (aW k76_2.eq_1 (aW k76_3.eq_1 (oW k76_5.eq_1))))
def k77_0 : ACode := .cond (.t 40) (.seq (.region [W1 2 (.mv (.c (.bool false)))]) (.ret)) (.skip)
def k77_1 : ACode := .seq (.region [zF 23 0 4, zL 24 4 23, zL 25 4 5, W1 26 (.call 67 [(.t 24), (.t 25)]), zN 27 26, zV 28 27, W2 29 28 true (.fld 0 (.t 5)), W2 30 28 true (.ld none (.t 29)), W2 31 28 true (.bin .neq (.t 30) (zI 1)), zU 32 31 28 true, W2 33 32 false (.fld 0 (.t 4)), W2 34 32 false (.fld 1 (.t 33)), W2 35 32 false (.ld none (.t 34)),
 W2 36 32 false (.fld 1 (.t 5)), W2 37 32 false (.ld none (.t 36)), W2 38 32 false (.bin .eql (.t 35) (.t 37)), W2 39 28 true (.pick (.t 32) (.c (.bool true)) (.t 38)), W1 40 (.pick (.t 28) (.t 39) (.c (.bool false)))]) k77_0
def k77_2 : ACode := .seq (.region [zF 16 3 1, zM 17 16, zF 18 4 4, zM 19 18, W1 20 (.ixs 5 (.t 17) (.t 19)), zF 21 0 20, zL 22 4 21, W1 5 (.new [.int .i64 0, .int .i64 0, .int .i64 0, .int .i64 0]), zS 4 5 22]) k77_1
def k77_3 : ACode := .seq (.seq (.region [zF 13 4 4, zM 14 13, W1 15 (.bin .lss (.t 14) (zI 0))]) (.cond (.t 15) (.exit 1) (.skip))) k77_2
def k77_4 : ACode := .seq (.block 1 ( .seq (.region [W1 11 (.ixs 5 (.t 7) (.t 9)), zL 12 5 11, W1 4 (.new [.int .i64 0, .int .i64 0, .int .i64 0, .int .i64 0, .int .i64 0]), zS 5 4 12]) k77_3)) (.region [W1 41 (.bin .add (.t 9) (zI 1)), zV 9 41])
def b77_5 : ACode := .seq (.region [W1 10 (.bin .lss (.t 9) (.t 8))]) (.seq (.cond (.t 10) (.skip) (.exit 0)) k77_4)
def k77_6 : ACode := .seq (.seq (.region [zF 6 3 1, zM 7 6, W1 8 (.len false (.t 7)), W1 9 (.mv (zI 0))]) (.block 0 ( .loop b77_5))) (.seq (.region [W1 2 (.mv (.c (.bool true)))]) (.ret))
def c77 : ACode := .seq (.region [W1 1 (.box (.t 0)), W1 2 (.mv (.c (.bool false)))]) k77_6
theorem ok77 : fnOk Tryz.prog 77 c77 42 [.t 2] = true := by kernel_rfl
def w77 := aW k77_0.eq_1 (aW k77_1.eq_1 (aW k77_2.eq_1 (aW k77_3.eq_1 (aW k77_4.eq_1 (oW k77_6.eq_1)))))
def k80_0 : ACode := .seq (.region [zV 5 0, zV 6 1, W1 7 (.call 147 [(.t 5), (.t 6)]), W1 8 (.bin .eql (.t 7) (zI 0)), zV 4 8]) (.ret)
def c80 : ACode := .seq (.region [W1 4 (.mv (.c (.bool false)))]) k80_0
theorem ok80 : fnOk Tryz.prog 80 c80 9 [.t 4] = true := by kernel_rfl
def k111_0 : ACode := .cond (.t 6) (.seq (.region [W1 2 (.mv (.c (.int .u64 0))), W1 3 (.mv (.c (.bool false)))]) (.ret)) (.skip)
def k111_1 : ACode := .seq (.drawn [(1, zF 8 0 1), (2, zM 9 8), (4, zF 11 2 1), (5, zM 12 11), (7, zF 14 3 1), (8, zM 15 14), (10, zF 17 1 1), (11, zM 18 17), (0, W1 7 (.call 187 [])), (3, W1 10 (.cvt .u64 (.t 9))), (6, W1 13 (.cvt .u64 (.t 12))), (9, W1 16 (.cvt .u64 (.t 15))), (12, W1 19 (.cvt .u64 (.t 18))), (13, W1 20 (.born 0 (.bsl 1 4 [.int .u64 0] [(0, (.t 10)), (1, (.t 13)), (2, (.t 16)), (3, (.t 19))]))), (14, W1 21 (.call 121 [(.t 7), (.t 20)])),
 (15, zE 22 21 0), (16, zE 23 21 1), (17, zV 2 22), (18, zV 3 23)] [[], [], [1], [2], [], [4], [5], [], [7], [8], [], [10], [11], [3, 6, 9, 12], [0, 13, 0], [14], [14], [15, 14, 0, 1, 2, 3, 4, 5, 6, 7, 8, 9, 10, 11, 12, 13, 14, 15, 16], [16, 17, 0, 1, 2, 3, 4, 5, 6, 7, 8, 9, 10, 11, 12, 13, 14, 15, 16, 17]] 1) (.ret)
def k111_2 : ACode := .seq (.seq (.region [zL 4 4 1, W1 5 (.call 141 [(.t 4)]), zN 6 5]) k111_0) k111_1
def c111 : ACode := .seq (.region [W1 1 (.box (.t 0)), W1 2 (.mv (.c (.int .u64 0))), W1 3 (.mv (.c (.bool false)))]) k111_2
theorem ok111 : fnOk Tryz.prog 111 c111 24 [.t 2, .t 3] = true := by kernel_rfl
def w111 := aW k111_0.eq_1 (aW k111_1.eq_1 (oW k111_2.eq_1))
def k112_0 : ACode := .cond (.t 10) (.seq (.region [W1 4 (.mv (zI (-1)))]) (.ret)) (.skip)
def k112_1 : ACode := .region [zF 18 0 2, zM 19 18, zV 20 6, W1 21 (.ixs 1 (.t 19) (.t 20)), zM 22 21, zV 6 22]
def k112_2 : ACode := .seq (.block 1 ( .region [zV 23 5, W1 24 (.bin .add (.t 23) (zI 1)), zV 5 24])) k112_1
def b112_3 : ACode := .seq (.seq (.region [zV 16 6, W1 17 (.bin .neq (.t 16) (zI (-1)))]) (.cond (.t 17) (.skip) (.exit 0))) k112_2
def k112_4 : ACode := .seq (.seq (.region [zF 11 0 2, zM 12 11, zV 13 1, W1 14 (.ixs 1 (.t 12) (.t 13)), zM 15 14, zV 6 15]) (.block 0 ( .loop b112_3))) (.seq (.region [zV 25 5, zV 4 25]) (.ret))
def k112_5 : ACode := .seq (.seq (.region [zL 7 1 2, zV 8 1, W1 9 (.call 188 [(.t 7), (.t 8)]), zN 10 9]) k112_0) (.seq (.region [W1 5 (.mv (zI 0))]) k112_4)
def c112 : ACode := .seq (.region [W1 2 (.box (.t 0)), W1 4 (.mv (zI 0))]) k112_5
theorem ok112 : fnOk Tryz.prog 112 c112 26 [.t 4] = true := by kernel_rfl
def w112 := aW k112_0.eq_1 (aW k112_1.eq_1 (aW k112_2.eq_1 (aW k112_4.eq_1 (oW k112_5.eq_1))))
def k114_0 : ACode := .cond (.t 11) (.seq (.region [W1 2 (.mv (.c (.str []))), W1 3 (.mv (.c (.str [])))]) (.ret)) (.skip)
def k114_1 : ACode := .seq (.region [zV 21 2, zV 22 3, zV 2 21, zV 3 22]) (.ret)
def k114_2 : ACode := .seq (.region [zV 13 4, zV 14 0, W1 15 (.ixs 1 (.t 13) (.t 14)), zM 16 15, W1 17 (.call 189 [(.t 16), (.c (.str [32]))]), zV 12 17, zE 18 12 0, zE 19 12 1, zE 20 12 2, zV 2 18, zV 3 19]) k114_1
def k114_3 : ACode := .seq (.seq (.region [zV 6 0, W1 7 (.bin .lss (.t 6) (zI 1)), zV 8 7, zU 9 0 8 false, W2 10 8 false (.bin .gtr (.t 9) (zI 13)), W1 11 (.pick (.t 8) (.c (.bool true)) (.t 10))]) k114_0) k114_2
def c114 : ACode := .seq (.region [W1 2 (.mv (.c (.str []))), W1 3 (.mv (.c (.str [])))]) (.seq (.region [
 W1 5 (.bsl 1 14 [.str []] [(0, (.c (.str []))), (1, (.c (.str [109, 97, 107, 101, 32, 65, 66, 88, 89]))), (2, (.c (.str [99, 111, 112, 121, 32, 65, 66, 88]))), (3, (.c (.str [109, 105, 110, 116, 32, 65, 66, 88, 89]))), (4, (.c (.str [109, 111, 118, 101, 32, 65, 66]))), (5, (.c (.str [100, 101, 108, 101, 116, 101, 32, 65]))), (6, (.c (.str [114, 101, 118, 111, 107, 101, 32, 65]))), (7, (.c (.str [115, 101, 110, 100, 32, 65, 98, 87]))), (8, (.c (.str [114, 101, 99, 118, 32, 65, 98]))), (9, (.c (.str [114, 105, 110, 103, 32, 65]))), (10, (.c (.str [112, 111, 108, 108, 32, 65]))), (11, (.c (.str [119, 114, 105, 116, 101, 32, 65, 88, 87]))), (12, (.c (.str [114, 101, 97, 100, 32, 65, 88]))), (13, (.c (.str [116, 101, 108, 108, 32, 65])))]),
 zV 4 5]) k114_3)
theorem ok114 : fnOk Tryz.prog 114 c114 23 [.t 2, .t 3] = true := by kernel_rfl
def w114 := aW k114_0.eq_1 (aW k114_1.eq_1 (aW k114_2.eq_1 (oW k114_3.eq_1)))
def k116_0 : ACode := .seq (.region [zF 4 0 1, zM 5 4, W1 6 (.len false (.t 5)), W1 7 (.bin .geq (.t 6) (zI 1)), zV 8 7, W2 9 8 true (.fld 0 (.t 1)), W2 10 8 true (.ld none (.t 9)), W2 11 8 true (.len false (.t 10)), W2 12 8 true (.bin .leq (.t 11) (zI 3)), W1 13 (.pick (.t 8) (.t 12) (.c (.bool false))), zV 14 13, W2 15 14 true (.fld 0 (.t 1)), W2 16 14 true (.ld none (.t 15)), zU 17 3 14 true,
 W2 18 14 true (.call 192 [(.t 16), (.t 17)]), W2 19 14 true (.un .not (.t 18)), W1 20 (.pick (.t 14) (.t 19) (.c (.bool false))), zV 2 20]) (.ret)
def c116 : ACode := .seq (.region [W1 1 (.box (.t 0)), W1 2 (.mv (.c (.bool false)))]) (.seq (.region [W1 3 (.mv (.c (.func 191 [])))]) k116_0)
theorem ok116 : fnOk Tryz.prog 116 c116 21 [.t 2] = true := by kernel_rfl
def k118_0 : ACode := .seq (.region [zF 7 3 1, zM 8 7, W1 9 (.call 194 [(.t 8), (zI 1), (zI 5)]), zV 10 9, W2 11 10 true (.fld 4 (.t 1)), W2 12 10 true (.ld none (.t 11)), W2 13 10 true (.call 194 [(.t 12), (zI 0), (zI 4096)]), W1 14 (.pick (.t 10) (.t 13) (.c (.bool false))), zV 2 14]) (.ret)
def k118_1 : ACode := .seq (.region [zF 17 3 1, zM 18 17, W1 19 (.call 195 [(.t 18)]), zV 20 19, W2 21 20 true (.fld 4 (.t 1)), W2 22 20 true (.ld none (.t 21)), W2 23 20 true (.bin .eql (.t 22) (zI 0)), W1 24 (.pick (.t 20) (.t 23) (.c (.bool false))), zV 2 24]) (.ret)
def k118_2 : ACode := .seq (.region [zF 27 3 1, zM 28 27, W1 29 (.call 195 [(.t 28)]), zV 30 29, W2 31 30 true (.fld 4 (.t 1)), W2 32 30 true (.ld none (.t 31)), W2 33 30 true (.call 194 [(.t 32), (zI 1), (zI 65535)]), W1 34 (.pick (.t 30) (.t 33) (.c (.bool false))), zV 2 34]) (.ret)
def k118_3 : ACode := .cond (.t 35) (.skip) (.region [W1 37 (.bin .eql (.t 4) (zI 12)), zV 35 37])
def k118_4 : ACode := .seq (.region [zF 38 3 1, zM 39 38, W1 40 (.call 194 [(.t 39), (zI 0), (zI 3)]), zV 41 40, W2 42 41 true (.fld 4 (.t 1)), W2 43 41 true (.ld none (.t 42)), W2 44 41 true (.bin .eql (.t 43) (zI 0)), W1 45 (.pick (.t 41) (.t 44) (.c (.bool false))), zV 2 45]) (.ret)
def k118_5 : ACode := .seq (.seq (.region [W1 36 (.bin .eql (.t 4) (zI 11)), zV 35 36]) k118_3) (.cond (.t 35) k118_4 (.skip))
def k118_6 : ACode := .seq (.region [W1 26 (.bin .eql (.t 4) (zI 3)), zV 25 26]) (.cond (.t 25) k118_2 k118_5)
def k118_7 : ACode := .seq (.region [W1 16 (.bin .eql (.t 4) (zI 2)), zV 15 16]) (.cond (.t 15) k118_1 k118_6)
def k118_8 : ACode := .block 0 ( .seq (.region [W1 6 (.bin .eql (.t 4) (zI 1)), zV 5 6]) (.cond (.t 5) k118_0 k118_7))
def k118_9 : ACode := .seq (.region [zF 46 3 1, zM 47 46, W1 48 (.bin .eql (.t 47) (zI 0)), zV 49 48, W2 50 49 true (.fld 4 (.t 1)), W2 51 49 true (.ld none (.t 50)), W2 52 49 true (.bin .eql (.t 51) (zI 0)), W1 53 (.pick (.t 49) (.t 52) (.c (.bool false))), zV 2 53]) (.ret)
def k118_10 : ACode := .seq (.seq (.region [zF 3 0 1, zM 4 3]) k118_8) k118_9
def c118 : ACode := .seq (.region [W1 1 (.box (.t 0)), W1 2 (.mv (.c (.bool false)))]) k118_10
theorem ok118 : fnOk Tryz.prog 118 c118 54 [.t 2] = true := by kernel_rfl
def w118 := aW k118_0.eq_1 (aW k118_1.eq_1 (aW k118_2.eq_1 (aW k118_3.eq_1 (aW k118_4.eq_1 (aW k118_5.eq_1 (aW k118_6.eq_1 (aW k118_7.eq_1 (aW k118_8.eq_1 (aW k118_9.eq_1 (oW k118_10.eq_1))))))))))
def k121_0 : ACode := .cond (.t 18) (.seq (.region [W1 4 (.mv (.c (.int .u64 0))), W1 5 (.mv (.c (.bool false)))]) (.ret)) (.skip)
def k121_1 : ACode := .cond (.t 35) (.seq (.region [W1 4 (.mv (.c (.int .u64 0))), W1 5 (.mv (.c (.bool false)))]) (.ret)) (.skip)
def k121_2 : ACode := .drawn [(1, zV 37 1), (2, zV 38 7), (3, W1 39 (.ixs 1 (.t 37) (.t 38))), (4, zM 40 39), (5, zF 41 0 8), (6, zM 42 41), (0, zV 36 6), (7, W1 43 (.bin .shl (.t 40) (.t 42))), (8, W1 44 (.bin .or (.t 36) (.t 43))), (9, zV 6 44)] [[], [], [], [1, 2], [3], [], [5], [4, 6], [0, 7], [8, 0, 1, 2, 3, 4, 5, 6, 7, 8]] 0
def k121_3 : ACode := .seq (.seq (.drawn [(0, zV 26 1), (1, zV 27 7), (2, W1 28 (.ixs 1 (.t 26) (.t 27))), (3, zM 29 28), (4, zL 30 2 8), (6, zF 32 0 8), (7, zM 33 32), (5, W1 31 (.call 199 [(.t 30)])), (8, W1 34 (.bin .shr (.t 31) (.t 33))), (9, W1 35 (.bin .gtr (.t 29) (.t 34)))] [[], [], [0, 1], [2], [], [4], [], [6], [5, 7], [3, 8]] 0) k121_1) k121_2
def k121_4 : ACode := .seq (.block 1 ( .seq (.region [zV 23 21, W1 24 (.ixs 2 (.t 19) (.t 21)), zL 25 2 24, W1 8 (.new [.int .i64 0, .int .i64 0]), zV 7 23, zS 2 8 25]) k121_3)) (.region [W1 45 (.bin .add (.t 21) (zI 1)), zV 21 45])
def b121_5 : ACode := .seq (.region [W1 22 (.bin .lss (.t 21) (.t 20))]) (.seq (.cond (.t 22) (.skip) (.exit 0)) k121_4)
def k121_6 : ACode := .seq (.region [zV 46 6, zV 4 46, W1 5 (.mv (.c (.bool true)))]) (.ret)
def k121_7 : ACode := .seq (.seq (.region [zV 19 0, W1 20 (.len false (.t 19)), W1 21 (.mv (zI 0))]) (.block 0 ( .loop b121_5))) k121_6
def k121_8 : ACode := .seq (.seq (.region [zV 9 0, W1 10 (.call 198 [(.t 9)]), zN 11 10, zV 12 11, zU 13 0 12 false, W2 14 12 false (.len false (.t 13)), zU 15 1 12 false, W2 16 12 false (.len false (.t 15)), W2 17 12 false (.bin .neq (.t 14) (.t 16)), W1 18 (.pick (.t 12) (.c (.bool true)) (.t 17))]) k121_0) (.seq (.region [W1 6 (.mv (.c (.int .u64 0)))]) k121_7)
def c121 : ACode := .seq (.region [W1 4 (.mv (.c (.int .u64 0))), W1 5 (.mv (.c (.bool false)))]) k121_8
theorem ok121 : fnOk Tryz.prog 121 c121 47 [.t 4, .t 5] = true := by kernel_rfl
def w121 := aW k121_0.eq_1 (aW k121_1.eq_1 (aW k121_2.eq_1 (aW k121_3.eq_1 (aW k121_4.eq_1 (aW k121_6.eq_1 (aW k121_7.eq_1 (oW k121_8.eq_1)))))))
def k122_0 : ACode := .seq (.region [W1 1 (.build [.int .i64 0, .int .i64 0] [(0, 1, (zI 0)), (1, 1, (zI 8))]), W1 2 (.build [.int .i64 0, .int .i64 0] [(0, 1, (zI 8)), (1, 1, (zI 16))]), W1 3 (.build [.int .i64 0, .int .i64 0] [(0, 1, (zI 24)), (1, 1, (zI 16))]), W1 4 (.bsl 2 3 [.int .i64 0, .int .i64 0] [(0, (.t 1)), (1, (.t 2)), (2, (.t 3))]), zV 0 4]) (.ret)
def c122 : ACode := .seq (.region [W1 0 (.mv (.c (.lit (.slice none 0 0))))]) k122_0
theorem ok122 : fnOk Tryz.prog 122 c122 5 [.t 0] = true := by kernel_rfl
def k123_0 : ACode := .cond (.t 9) (.seq (.region [W1 2 (.mv (.c (.int .u64 0))), W1 3 (.mv (.c (.bool false)))]) (.ret)) (.skip)
def k123_1 : ACode := .region [zV 22 4, zV 23 6, W1 24 (.cvt .u64 (.t 23)), zV 25 5, W1 26 (.bin .add (.t 25) (zI 1)), W1 27 (.bin .mul (zI 4) (.t 26)), W1 28 (.bin .shl (.t 24) (.t 27)), W1 29 (.bin .or (.t 22) (.t 28)), zV 4 29]
def k123_2 : ACode := .seq (.block 1 ( .seq (.region [zV 19 17, W1 20 (.ixs 1 (.t 15) (.t 17)), zM 21 20, zV 5 19, zV 6 21]) k123_1)) (.region [W1 30 (.bin .add (.t 17) (zI 1)), zV 17 30])
def b123_3 : ACode := .seq (.region [W1 18 (.bin .lss (.t 17) (.t 16))]) (.seq (.cond (.t 18) (.skip) (.exit 0)) k123_2)
def k123_4 : ACode := .seq (.region [zV 31 4, zV 2 31, W1 3 (.mv (.c (.bool true)))]) (.ret)
def k123_5 : ACode := .seq (.seq (.region [zF 14 0 1, zM 15 14, W1 16 (.len false (.t 15)), W1 17 (.mv (zI 0))]) (.block 0 ( .loop b123_3))) k123_4
def k123_6 : ACode := .seq (.region [zF 10 0 1, zM 11 10, W1 12 (.len false (.t 11)), W1 13 (.cvt .u64 (.t 12)), zV 4 13]) k123_5
def k123_7 : ACode := .seq (.seq (.region [zL 7 1 1, W1 8 (.call 116 [(.t 7)]), zN 9 8]) k123_0) k123_6
def c123 : ACode := .seq (.region [W1 1 (.box (.t 0)), W1 2 (.mv (.c (.int .u64 0))), W1 3 (.mv (.c (.bool false)))]) k123_7
theorem ok123 : fnOk Tryz.prog 123 c123 32 [.t 2, .t 3] = true := by kernel_rfl
def w123 := aW k123_0.eq_1 (aW k123_1.eq_1 (aW k123_2.eq_1 (aW k123_4.eq_1 (aW k123_5.eq_1 (aW k123_6.eq_1 (oW k123_7.eq_1))))))
def c124 : ACode := .seq (.region [W1 0 (.new [.int .i64 0, .int .i64 0, .int .i64 0])]) (.seq (.region [W1 1 (.build [.int .i64 0, .int .i64 0, .int .i64 0] [(0, 1, (zI 2)), (1, 1, (zI 32)), (2, 1, (zI 16))]), zS 3 0 1]) (.ret))
theorem ok124 : fnOk Tryz.prog 124 c124 2 [.c 0 (some 3)] = true := by kernel_rfl
def k125_0 : ACode := .cond (.t 10) (.seq (.region [W1 4 (.mv (.c (.lit (.slice none 0 0))))]) (.ret)) (.skip)
def k125_1 : ACode := .drawn [(2, zL 22 2 7), (5, zF 25 0 7), (6, zM 26 25), (3, W1 23 (.call 199 [(.t 22)])), (0, zV 20 5), (1, zV 21 0), (4, W1 24 (.bin .and (.t 21) (.t 23))), (7, W1 27 (.bin .shr (.t 24) (.t 26))), (8, W1 28 (.born 0 (.bsl 1 1 [.int .u64 0] [(0, (.t 27))]))), (9, W1 29 (.app 1 8 (.t 20) (.t 28))), (10, zV 5 29)] [[], [], [], [2], [1, 3], [], [5], [4, 6], [7], [0, 8, 3], [9, 9, 0, 1, 2, 3, 4, 5, 6, 7, 8, 9]] 1
def k125_2 : ACode := .seq (.block 1 ( .seq (.region [W1 18 (.ixs 2 (.t 14) (.t 16)), zL 19 2 18, W1 7 (.new [.int .i64 0, .int .i64 0]), zS 2 7 19]) k125_1)) (.region [W1 30 (.bin .add (.t 16) (zI 1)), zV 16 30])
def b125_3 : ACode := .seq (.region [W1 17 (.bin .lss (.t 16) (.t 15))]) (.seq (.cond (.t 17) (.skip) (.exit 0)) k125_2)
def k125_4 : ACode := .seq (.seq (.region [zV 14 1, W1 15 (.len false (.t 14)), W1 16 (.mv (zI 0))]) (.block 0 ( .loop b125_3))) (.seq (.region [zV 31 5, zV 4 31]) (.ret))
def k125_5 : ACode := .seq (.region [zV 11 1, W1 12 (.len false (.t 11)), W1 13 (.mks 1 8 [.int .u64 0] (zI 0) (.t 12)), zV 5 13]) k125_4
def k125_6 : ACode := .seq (.seq (.region [zV 8 1, W1 9 (.call 198 [(.t 8)]), zN 10 9]) k125_0) k125_5
def c125 : ACode := .seq (.region [W1 4 (.mv (.c (.lit (.slice none 0 0))))]) k125_6
theorem ok125 : fnOk Tryz.prog 125 c125 32 [.t 4] = true := by kernel_rfl
def w125 := aW k125_0.eq_1 (aW k125_1.eq_1 (aW k125_2.eq_1 (aW k125_4.eq_1 (aW k125_5.eq_1 (oW k125_6.eq_1)))))
def k126_0 : ACode := .region [zF 14 0 4, zM 15 14, zV 16 0, zV 17 5, W1 18 (.bin .add (.t 17) (.c (.int .u64 1))), W1 19 (.bin .mul (.c (.int .u64 4)) (.t 18)), W1 20 (.bin .shr (.t 16) (.t 19)), W1 21 (.bin .and (.t 20) (.c (.int .u64 15))), W1 22 (.cvt .i64 (.t 21)), W1 23 (.bsl 1 1 [.int .i64 0] [(0, (.t 22))]), W1 24 (.app 1 8 (.t 15) (.t 23)), zF 25 0 4, zS 1 25 24]
def k126_1 : ACode := .seq (.block 1 ( .seq (.region [zV 13 11, zV 5 13]) k126_0)) (.region [W1 26 (.bin .add (.t 11) (.c (.int .u64 1))), zV 11 26])
def b126_2 : ACode := .seq (.region [W1 12 (.bin .lss (.t 11) (.t 10))]) (.seq (.cond (.t 12) (.skip) (.exit 0)) k126_1)
def k126_3 : ACode := .seq (.region [W1 39 (.build [.lit (.slice none 0 0)] []), zS 1 2 39, W1 3 (.mv (.c (.bool false)))]) (.ret)
def k126_4 : ACode := .seq (.region [zV 32 7, zN 33 32, zV 34 33, zU 35 6 34 false, zU 36 0 34 false, W2 37 34 false (.bin .neq (.t 35) (.t 36)), W1 38 (.pick (.t 34) (.c (.bool true)) (.t 37))]) (.cond (.t 38) k126_3 (.skip))
def k126_5 : ACode := .seq (.region [zL 40 1 4, zS 1 2 40, W1 3 (.mv (.c (.bool true)))]) (.ret)
def k126_6 : ACode := .seq (.seq (.region [zL 28 1 4, W1 29 (.call 123 [(.t 28)]), zV 27 29, zE 30 27 0, zE 31 27 1, zV 6 30, zV 7 31]) k126_4) k126_5
def k126_7 : ACode := .seq (.seq (.region [zV 8 0, W1 9 (.bin .and (.t 8) (.c (.int .u64 15))), W1 10 (.mxn false [(.t 9), (.c (.int .u64 3))]), W1 11 (.mv (.c (.int .u64 0)))]) (.block 0 ( .loop b126_2))) k126_6
def c126 : ACode := .seq (.region [W1 2 (.new [.lit (.slice none 0 0)]), W1 3 (.mv (.c (.bool false)))]) (.seq (.region [W1 4 (.new [.lit (.slice none 0 0)])]) k126_7)
theorem ok126 : fnOk Tryz.prog 126 c126 41 [.c 2 (some 1), .t 3] = true := by kernel_rfl
def w126 := aW k126_0.eq_1 (aW k126_1.eq_1 (aW k126_3.eq_1 (aW k126_4.eq_1 (aW k126_5.eq_1 (aW k126_6.eq_1 (oW k126_7.eq_1))))))
def k128_0 : ACode := .region [zV 19 1, zV 20 2, zF 21 1 8, zS 1 21 19, zF 22 2 8, zS 1 22 20]
def k128_1 : ACode := .cond (.t 23) (.skip) (.region [W1 26 (.bin .eql (.t 11) (zI 5)), zV 23 26])
def k128_2 : ACode := .cond (.t 23) (.skip) (.seq (.region [W1 25 (.bin .eql (.t 11) (zI 4)), zV 23 25]) k128_1)
def k128_3 : ACode := .seq (.region [W1 12 (.build [.int .i64 0, .int .i64 0, .int .i64 0, .int .i64 0, .int .i64 0, .int .i64 0, .int .i64 0, .bool false, .int .u64 0, .int .u64 0, .int .u64 0, .int .u64 0, .int .u64 0] []), zS 13 6 12, W1 7 (.mv (.c (.bool false)))]) (.ret)
def k128_4 : ACode := .seq (.seq (.region [W1 24 (.bin .eql (.t 11) (zI 3)), zV 23 24]) k128_2) (.cond (.t 23) (.skip) k128_3)
def k128_5 : ACode := .seq (.region [W1 18 (.bin .eql (.t 11) (zI 2)), zV 17 18]) (.cond (.t 17) k128_0 k128_4)
def k128_6 : ACode := .cond (.t 13) (.region [zV 15 1, zF 16 3 8, zS 1 16 15]) k128_5
def k128_7 : ACode := .block 0 ( .seq (.region [W1 14 (.bin .eql (.t 11) (zI 1)), zV 13 14]) k128_6)
def k128_8 : ACode := .seq (.region [W1 30 (.build [.int .i64 0, .int .i64 0, .int .i64 0, .int .i64 0, .int .i64 0, .int .i64 0, .int .i64 0, .bool false, .int .u64 0, .int .u64 0, .int .u64 0, .int .u64 0, .int .u64 0] []), zS 13 6 30, W1 7 (.mv (.c (.bool false)))]) (.ret)
def k128_9 : ACode := .seq (.region [zL 31 13 8, zS 13 6 31, W1 7 (.mv (.c (.bool true)))]) (.ret)
def k128_10 : ACode := .seq (.seq (.region [zL 27 13 8, W1 28 (.call 143 [(.t 27)]), zN 29 28]) (.cond (.t 29) k128_8 (.skip))) k128_9
def k128_11 : ACode := .seq (.region [zV 9 0, W1 10 (.build [.int .i64 0, .int .i64 0, .int .i64 0, .int .i64 0, .int .i64 0, .int .i64 0, .int .i64 0, .bool false, .int .u64 0, .int .u64 0, .int .u64 0, .int .u64 0, .int .u64 0] [(0, 1, (.t 9))]), W1 8 (.new [.int .i64 0, .int .i64 0, .int .i64 0, .int .i64 0, .int .i64 0, .int .i64 0, .int .i64 0, .bool false, .int .u64 0, .int .u64 0, .int .u64 0, .int .u64 0, .int .u64 0]), zS 13 8 10]) (.seq (.seq (.region [zV 11 0]) k128_7) k128_10)
def c128 : ACode := .seq (.region [W1 6 (.new [.int .i64 0, .int .i64 0, .int .i64 0, .int .i64 0, .int .i64 0, .int .i64 0, .int .i64 0, .bool false, .int .u64 0, .int .u64 0, .int .u64 0, .int .u64 0, .int .u64 0]), W1 7 (.mv (.c (.bool false)))]) k128_11
theorem ok128 : fnOk Tryz.prog 128 c128 32 [.c 6 (some 13), .t 7] = true := by kernel_rfl
def w128 := aW k128_0.eq_1 (aW k128_1.eq_1 (aW k128_2.eq_1 (aW k128_3.eq_1 (aW k128_4.eq_1 (aW k128_5.eq_1 (aW k128_6.eq_1 (aW k128_7.eq_1 (aW k128_8.eq_1 (aW k128_9.eq_1 (aW k128_10.eq_1 (oW k128_11.eq_1)))))))))))
def k129_0 : ACode := .cond (.t 15) (.seq (.region [W1 4 (.mv (zI 0))]) (.ret)) (.skip)
def k129_1 : ACode := .seq (.region [zV 16 1, W1 17 (.bin .mul (zI 8) (.t 16)), zV 4 17]) (.ret)
def k129_2 : ACode := .seq (.seq (.region [zL 5 3 2, W1 6 (.call 70 [(.t 5)]), zN 7 6, zV 8 7, zU 9 1 8 false, W2 10 8 false (.fld 0 (.t 2)), W2 11 8 false (.ld none (.t 10)), W2 12 8 false (.bin .sub (.t 11) (zI 1)), W2 13 8 false (.call 140 [(.t 9), (zI 0), (.t 12)]), W2 14 8 false (.un .not (.t 13)), W1 15 (.pick (.t 8) (.c (.bool true)) (.t 14))]) k129_0) k129_1
def c129 : ACode := .seq (.region [W1 2 (.box (.t 0)), W1 4 (.mv (zI 0))]) k129_2
theorem ok129 : fnOk Tryz.prog 129 c129 18 [.t 4] = true := by kernel_rfl
def w129 := aW k129_0.eq_1 (aW k129_1.eq_1 (oW k129_2.eq_1))
def k134_0 : ACode := .cond (.t 29) (.seq (.region [W1 6 (.mv (zI 0)), W1 7 (.mv (zI 1))]) (.ret)) (.skip)
def k134_1 : ACode := .region [zL 47 5 3, zV 48 10, W1 49 (.call 202 [(.t 47), (.t 48)]), zV 46 49, zE 50 46 0, zE 51 46 1, zS 13 8 50, zV 9 51]
def k134_2 : ACode := .cond (.t 59) (.seq (.region [W1 6 (.mv (zI 0)), W1 7 (.mv (zI 3))]) (.ret)) (.skip)
def k134_3 : ACode := .region [zL 60 13 8, zV 61 12, W1 62 (.call 203 [(.t 60), (.t 61)]), zV 10 62]
def k134_4 : ACode := .seq (.seq (.region [zV 52 9, zN 53 52, zV 54 53, W2 55 54 false (.ld (some 13) (.t 8)), zU 56 12 54 false, W2 57 54 false (.call 203 [(.t 55), (.t 56)]), W2 58 54 false (.bin .lss (.t 57) (zI 0)), W1 59 (.pick (.t 54) (.c (.bool true)) (.t 58))]) k134_2) k134_3
def k134_5 : ACode := .seq (.seq (.region [zV 44 11, W1 45 (.bin .gtr (.t 44) (zI 0))]) (.cond (.t 45) k134_1 (.skip))) k134_4
def k134_6 : ACode := .seq (.block 1 ( .seq (.region [zV 41 39, W1 42 (.ixs 1 (.t 37) (.t 39)), zM 43 42, zV 11 41, zV 12 43]) k134_5)) (.region [W1 63 (.bin .add (.t 39) (zI 1)), zV 39 63])
def b134_7 : ACode := .seq (.region [W1 40 (.bin .lss (.t 39) (.t 38))]) (.seq (.cond (.t 40) (.skip) (.exit 0)) k134_6)
def k134_8 : ACode := .seq (.region [zV 64 10, zV 6 64, W1 7 (.mv (zI 0))]) (.ret)
def k134_9 : ACode := .seq (.seq (.region [zF 36 0 5, zM 37 36, W1 38 (.len false (.t 37)), W1 39 (.mv (zI 0))]) (.block 0 ( .loop b134_7))) k134_8
def k134_10 : ACode := .seq (.region [zF 30 4 3, zM 31 30, zV 32 1, W1 33 (.bin .add (zI 2) (.t 32)), W1 34 (.ixs 13 (.t 31) (.t 33)), zL 35 13 34, W1 8 (.new [.int .i64 0, .int .i64 0, .int .i64 0, .int .i64 0, .int .i64 0, .int .i64 0, .int .i64 0, .bool false, .int .u64 0, .int .u64 0, .int .u64 0, .int .u64 0, .int .u64 0]), zS 13 8 35, W1 9 (.mv (.c (.bool true)))]) (.seq (.region [W1 10 (.mv (zI 0))]) k134_9)
def k134_11 : ACode := .seq (.seq (.region [zL 13 5 3, W1 14 (.call 15 [(.t 13)]), zN 15 14, zV 16 15, zU 17 1 16 false, W2 18 16 false (.fld 0 (.t 3)), W2 19 16 false (.fld 0 (.t 18)), W2 20 16 false (.ld none (.t 19)), W2 21 16 false (.bin .sub (.t 20) (zI 1)), W2 22 16 false (.call 135 [(.t 17), (zI 0), (.t 21)]), W2 23 16 false (.un .not (.t 22)), W1 24 (.pick (.t 16) (.c (.bool true)) (.t 23)),
 zV 25 24, W2 26 25 false (.ld (some 1) (.t 5)), W2 27 25 false (.call 116 [(.t 26)]), W2 28 25 false (.un .not (.t 27)), W1 29 (.pick (.t 25) (.c (.bool true)) (.t 28))]) k134_0) k134_10
def c134 : ACode := .seq (.region [W1 3 (.box (.t 0)), W1 5 (.box (.t 2)), W1 6 (.mv (zI 0)), W1 7 (.mv (zI 0))]) k134_11
theorem ok134 : fnOk Tryz.prog 134 c134 65 [.t 6, .t 7] = true := by kernel_rfl
def w134 := aW k134_0.eq_1 (aW k134_1.eq_1 (aW k134_2.eq_1 (aW k134_3.eq_1 (aW k134_4.eq_1 (aW k134_5.eq_1 (aW k134_6.eq_1 (aW k134_8.eq_1 (aW k134_9.eq_1 (aW k134_10.eq_1 (oW k134_11.eq_1))))))))))
def k135_0 : ACode := .seq (.region [zV 7 0, zV 8 1, W1 9 (.bin .geq (.t 7) (.t 8)), zV 10 9, zU 11 0 10 true, zU 12 2 10 true, W2 13 10 true (.bin .leq (.t 11) (.t 12)), W1 14 (.pick (.t 10) (.t 13) (.c (.bool false))), zV 6 14]) (.ret)
def c135 : ACode := .seq (.region [W1 6 (.mv (.c (.bool false)))]) k135_0
theorem ok135 : fnOk Tryz.prog 135 c135 15 [.t 6] = true := by kernel_rfl
def k140_0 : ACode := .seq (.region [zV 7 0, zV 8 1, W1 9 (.bin .geq (.t 7) (.t 8)), zV 10 9, zU 11 0 10 true, zU 12 2 10 true, W2 13 10 true (.bin .leq (.t 11) (.t 12)), W1 14 (.pick (.t 10) (.t 13) (.c (.bool false))), zV 6 14]) (.ret)
def c140 : ACode := .seq (.region [W1 6 (.mv (.c (.bool false)))]) k140_0
theorem ok140 : fnOk Tryz.prog 140 c140 15 [.t 6] = true := by kernel_rfl
def k141_0 : ACode := .cond (.t 4) (.seq (.region [W1 2 (.mv (.c (.bool true)))]) (.ret)) (.skip)
def k141_1 : ACode := .seq (.region [zF 5 0 1, zM 6 5, W1 7 (.call 207 [(.t 6), (zI 1), (zI 5)]), zV 8 7, W2 9 8 true (.fld 1 (.t 1)), W2 10 8 true (.ld none (.t 9)), W2 11 8 true (.call 207 [(.t 10), (zI 0), (zI 47)]), W1 12 (.pick (.t 8) (.t 11) (.c (.bool false))), zV 13 12, W2 14 13 true (.fld 2 (.t 1)), W2 15 13 true (.ld none (.t 14)), W2 16 13 true (.call 195 [(.t 15)]),
 W1 17 (.pick (.t 13) (.t 16) (.c (.bool false))), zV 18 17, W2 19 18 true (.fld 3 (.t 1)), W2 20 18 true (.ld none (.t 19)), W2 21 18 true (.call 208 [(.t 20)]), W1 22 (.pick (.t 18) (.t 21) (.c (.bool false))), zV 23 22, W2 24 23 true (.fld 3 (.t 1)), W2 25 23 true (.ld none (.t 24)), W2 26 23 true (.bin .eql (.t 25) (zI 0)), zU 27 26 23 true, W2 28 27 false (.fld 0 (.t 1)),
 W2 29 27 false (.ld none (.t 28)), W2 30 27 false (.call 209 [(.t 29)]), W2 31 23 true (.pick (.t 27) (.c (.bool true)) (.t 30)), W1 32 (.pick (.t 23) (.t 31) (.c (.bool false))), zV 2 32]) (.ret)
def k141_2 : ACode := .seq (.seq (.region [zL 3 4 1, W1 4 (.call 59 [(.t 3)])]) k141_0) k141_1
def c141 : ACode := .seq (.region [W1 1 (.box (.t 0)), W1 2 (.mv (.c (.bool false)))]) k141_2
theorem ok141 : fnOk Tryz.prog 141 c141 33 [.t 2] = true := by kernel_rfl
def w141 := aW k141_0.eq_1 (aW k141_1.eq_1 (oW k141_2.eq_1))
def k142_0 : ACode := .seq (.region [zV 5 1, W1 6 (.bin .geq (.t 5) (zI 0)), zV 7 6, zU 8 1 7 true, W2 9 7 true (.fld 4 (.t 2)), W2 10 7 true (.ld none (.t 9)), W2 11 7 true (.len false (.t 10)), W2 12 7 true (.bin .lss (.t 8) (.t 11)), W1 13 (.pick (.t 7) (.t 12) (.c (.bool false))), zV 14 13, W2 15 14 true (.fld 4 (.t 2)), W2 16 14 true (.ld none (.t 15)), zU 17 1 14 true,
 W2 18 14 true (.ixs 13 (.t 16) (.t 17)), W2 19 14 true (.fld 0 (.t 18)), W2 20 14 true (.ld none (.t 19)), W2 21 14 true (.bin .neq (.t 20) (zI 0)), W1 22 (.pick (.t 14) (.t 21) (.c (.bool false))), zV 4 22]) (.ret)
def c142 : ACode := .seq (.region [W1 2 (.box (.t 0)), W1 4 (.mv (.c (.bool false)))]) k142_0
theorem ok142 : fnOk Tryz.prog 142 c142 23 [.t 4] = true := by kernel_rfl
def k143_0 : ACode := .cond (.t 6) (.seq (.region [W1 2 (.mv (.c (.bool false)))]) (.ret)) (.skip)
def k143_1 : ACode := .seq (.region [zF 11 3 1, zM 12 11, W1 13 (.call 211 [(.t 12), (zI 1), (zI 4096)]), zV 14 13, W2 15 14 true (.fld 4 (.t 1)), W2 16 14 true (.ld none (.t 15)), W2 17 14 true (.fld 3 (.t 1)), W2 18 14 true (.ld none (.t 17)), W2 19 14 true (.call 211 [(.t 16), (zI 0), (.t 18)]), W1 20 (.pick (.t 14) (.t 19) (.c (.bool false))), zV 2 20]) (.ret)
def k143_2 : ACode := .seq (.drawn [(0, zF 23 1 1), (1, zM 24 23), (2, W1 25 (.call 211 [(.t 24), (zI 1), (zI 4)])), (3, zV 26 25), (4, W2 27 26 true (.fld 2 (.t 1))), (5, W2 28 26 true (.ld none (.t 27))), (6, W2 29 26 true (.fld 1 (.t 1))), (7, W2 30 26 true (.ld none (.t 29))), (8, W2 31 26 true (.bin .shl (zI 1) (.t 30))), (9, W2 32 26 true (.bin .sub (zI 96) (.t 31))),
 (10, W2 33 26 true (.call 211 [(.t 28), (zI 0), (.t 32)])), (11, W1 34 (.pick (.t 26) (.t 33) (.c (.bool false)))), (12, zV 2 34)] [[], [0], [1], [2, 2], [3], [4, 3], [3], [6, 3], [7, 3], [8, 3], [5, 9, 3, 3], [3, 10], [11, 10, 0, 1, 2, 3, 4, 5, 6, 7, 8, 9, 10, 11]] 0) (.ret)
def k143_3 : ACode := .seq (.region [zF 37 6 1, zM 38 37, W1 39 (.call 211 [(.t 38), (zI 0), (zI 65535)]), zV 40 39, W2 41 40 true (.fld 5 (.t 1)), W2 42 40 true (.ld none (.t 41)), W2 43 40 true (.call 211 [(.t 42), (zI 0), (zI 96)]), W1 44 (.pick (.t 40) (.t 43) (.c (.bool false))), zV 2 44]) (.ret)
def k143_4 : ACode := .seq (.region [W1 36 (.bin .eql (.t 8) (zI 3)), zV 35 36]) (.cond (.t 35) k143_3 (.skip))
def k143_5 : ACode := .seq (.region [W1 22 (.bin .eql (.t 8) (zI 2)), zV 21 22]) (.cond (.t 21) k143_2 k143_4)
def k143_6 : ACode := .block 0 ( .seq (.region [W1 10 (.bin .eql (.t 8) (zI 1)), zV 9 10]) (.cond (.t 9) k143_1 k143_5))
def k143_7 : ACode := .seq (.seq (.region [zF 7 0 1, zM 8 7]) k143_6) (.seq (.region [W1 2 (.mv (.c (.bool true)))]) (.ret))
def k143_8 : ACode := .seq (.seq (.drawn [(0, zL 3 13 1), (2, zL 5 13 1), (1, W1 4 (.call 210 [(.t 3)])), (3, W1 6 (.eqs true [0, 0, 0, 0, 0, 0, 0, 1, 0, 0, 0, 0, 0] (.t 4) (.t 5)))] [[], [0], [], [1, 2]] 0) k143_0) k143_7
def c143 : ACode := .seq (.region [W1 1 (.box (.t 0)), W1 2 (.mv (.c (.bool false)))]) k143_8
theorem ok143 : fnOk Tryz.prog 143 c143 45 [.t 2] = true := by kernel_rfl
def w143 := aW k143_0.eq_1 (aW k143_1.eq_1 (aW k143_2.eq_1 (aW k143_3.eq_1 (aW k143_4.eq_1 (aW k143_5.eq_1 (aW k143_6.eq_1 (aW k143_7.eq_1 (oW k143_8.eq_1))))))))
def k144_0 : ACode := .region [zV 27 5, zV 28 6, W1 29 (.bsl 1 1 [.int .i64 0] [(0, (.t 28))]), W1 30 (.app 1 8 (.t 27) (.t 29)), zV 5 30]
def k144_1 : ACode := .seq (.region [zF 16 0 7, zL 17 4 16, W1 18 (.call 59 [(.t 17)]), zN 19 18, zV 20 19, W2 21 20 true (.fld 0 (.t 7)), W2 22 20 true (.fld 1 (.t 21)), W2 23 20 true (.ld none (.t 22)), zU 24 1 20 true, W2 25 20 true (.bin .eql (.t 23) (.t 24)), W1 26 (.pick (.t 20) (.t 25) (.c (.bool false)))]) (.cond (.t 26) k144_0 (.skip))
def k144_2 : ACode := .seq (.block 1 ( .seq (.region [zV 13 11, W1 14 (.ixs 5 (.t 9) (.t 11)), zL 15 5 14, W1 7 (.new [.int .i64 0, .int .i64 0, .int .i64 0, .int .i64 0, .int .i64 0]), zV 6 13, zS 5 7 15]) k144_1)) (.region [W1 31 (.bin .add (.t 11) (zI 1)), zV 11 31])
def b144_3 : ACode := .seq (.region [W1 12 (.bin .lss (.t 11) (.t 10))]) (.seq (.cond (.t 12) (.skip) (.exit 0)) k144_2)
def k144_4 : ACode := .seq (.seq (.region [zF 8 3 2, zM 9 8, W1 10 (.len false (.t 9)), W1 11 (.mv (zI 0))]) (.block 0 ( .loop b144_3))) (.seq (.region [zV 32 5, zV 4 32]) (.ret))
def c144 : ACode := .seq (.region [W1 2 (.box (.t 0)), W1 4 (.mv (.c (.lit (.slice none 0 0))))]) (.seq (.region [W1 5 (.mv (.c (.lit (.slice none 0 0))))]) k144_4)
theorem ok144 : fnOk Tryz.prog 144 c144 33 [.t 4] = true := by kernel_rfl
def w144 := aW k144_0.eq_1 (aW k144_1.eq_1 (aW k144_2.eq_1 (oW k144_4.eq_1)))
def k145_0 : ACode := .cond (.t 20) (.seq (.region [W1 6 (.mv (.c (.bool false)))]) (.ret)) (.skip)
def k145_1 : ACode := .seq (.region [zV 26 7, zL 27 5 3, zV 28 2, W1 29 (.call 213 [(.t 27), (.t 28)]), W1 30 (.mlk (.bool false) (.t 26) (.t 29)), zV 6 30]) (.ret)
def k145_2 : ACode := .seq (.region [zL 22 5 3, zV 23 1, zV 24 7, W1 25 (.call 212 [(.t 22), (.t 23), (.t 24)])]) k145_1
def k145_3 : ACode := .seq (.seq (.region [zL 8 5 3, zV 9 1, W1 10 (.call 142 [(.t 8), (.t 9)]), zN 11 10, zV 12 11, W2 13 12 false (.fld 4 (.t 3)), W2 14 12 false (.ld none (.t 13)), zU 15 1 12 false, W2 16 12 false (.ixs 13 (.t 14) (.t 15)), W2 17 12 false (.fld 0 (.t 16)), W2 18 12 false (.ld none (.t 17)), W2 19 12 false (.bin .neq (.t 18) (zI 2)), W1 20 (.pick (.t 12) (.c (.bool true)) (.t 19))])
 k145_0) (.seq (.region [W1 21 (.mkm), zV 7 21]) k145_2)
def c145 : ACode := .seq (.region [W1 3 (.box (.t 0)), W1 6 (.mv (.c (.bool false)))]) k145_3
theorem ok145 : fnOk Tryz.prog 145 c145 31 [.t 6] = true := by kernel_rfl
def w145 := aW k145_0.eq_1 (aW k145_1.eq_1 (aW k145_2.eq_1 (oW k145_3.eq_1)))
def k146_0 : ACode := .seq (.region [zV 5 1, W1 6 (.bin .geq (.t 5) (zI 0)), zV 7 6, zU 8 1 7 true, W2 9 7 true (.fld 0 (.t 2)), W2 10 7 true (.ld none (.t 9)), W2 11 7 true (.len false (.t 10)), W2 12 7 true (.bin .lss (.t 8) (.t 11)), W1 13 (.pick (.t 7) (.t 12) (.c (.bool false))), zV 14 13, W2 15 14 true (.fld 0 (.t 2)), W2 16 14 true (.ld none (.t 15)), zU 17 1 14 true,
 W2 18 14 true (.ixs 1 (.t 16) (.t 17)), W2 19 14 true (.ld none (.t 18)), W2 20 14 true (.bin .neq (.t 19) (zI (-2))), W1 21 (.pick (.t 14) (.t 20) (.c (.bool false))), zV 4 21]) (.ret)
def c146 : ACode := .seq (.region [W1 2 (.box (.t 0)), W1 4 (.mv (.c (.bool false)))]) k146_0
theorem ok146 : fnOk Tryz.prog 146 c146 22 [.t 4] = true := by kernel_rfl
def k147_0 : ACode := .seq (.region [zV 5 0, W1 6 (.call 214 [(.t 5)]), zV 7 1, W1 8 (.call 214 [(.t 7)]), W1 9 (.bin .andNot (.t 6) (.t 8)), zV 4 9]) (.ret)
def c147 : ACode := .seq (.region [W1 4 (.mv (zI 0))]) k147_0
theorem ok147 : fnOk Tryz.prog 147 c147 10 [.t 4] = true := by kernel_rfl
def k148_0 : ACode := .seq (.region [zV 20 9, W1 6 (.mv (zI 0)), zV 7 20]) (.ret)
def k148_1 : ACode := .cond (.t 21) (.seq (.region [W1 6 (.mv (zI 0)), W1 7 (.mv (zI 5))]) (.ret)) (.skip)
def k148_2 : ACode := .seq (.region [zF 22 3 3, zM 23 22, zV 24 8, W1 25 (.ixs 5 (.t 23) (.t 24)), zF 26 0 25, zL 27 4 26, W1 28 (.call 59 [(.t 27)]), zN 29 28, zV 21 29]) k148_1
def k148_3 : ACode := .seq (.region [zV 30 8, zV 6 30, W1 7 (.mv (zI 0))]) (.ret)
def k148_4 : ACode := .seq (.block 0 ( .seq (.region [zV 18 9, W1 19 (.bin .neq (.t 18) (zI 0)), zV 17 19]) (.cond (.t 17) k148_0 k148_2))) k148_3
def k148_5 : ACode := .seq (.region [zL 11 5 3, zV 12 1, zL 13 1 5, W1 14 (.call 134 [(.t 11), (.t 12), (.t 13)]), zV 10 14, zE 15 10 0, zE 16 10 1, zV 8 15, zV 9 16]) k148_4
def c148 : ACode := .seq (.region [W1 3 (.box (.t 0)), W1 5 (.box (.t 2)), W1 6 (.mv (zI 0)), W1 7 (.mv (zI 0))]) k148_5
theorem ok148 : fnOk Tryz.prog 148 c148 31 [.t 6, .t 7] = true := by kernel_rfl
def w148 := aW k148_0.eq_1 (aW k148_1.eq_1 (aW k148_2.eq_1 (aW k148_3.eq_1 (aW k148_4.eq_1 (oW k148_5.eq_1)))))
def k177_0 : ACode := .seq (.region [zV 11 1, zV 4 11, W1 5 (.mv (.c (.bool true)))]) (.ret)
def k177_1 : ACode := .seq (.region [zV 9 1, W1 10 (.call 211 [(.t 9), (zI 1), (zI 4096)])]) (.cond (.t 10) k177_0 (.skip))
def k177_2 : ACode := .seq (.region [zV 16 1, W1 17 (.bin .shl (zI 1) (.t 16)), zV 4 17, W1 5 (.mv (.c (.bool true)))]) (.ret)
def k177_3 : ACode := .seq (.region [zV 14 1, W1 15 (.call 211 [(.t 14), (zI 1), (zI 4)])]) (.cond (.t 15) k177_2 (.skip))
def k177_4 : ACode := .cond (.t 18) (.skip) (.region [W1 20 (.bin .eql (.t 6) (zI 4)), zV 18 20])
def k177_5 : ACode := .cond (.t 21) (.seq (.region [W1 4 (.mv (zI 2)), W1 5 (.mv (.c (.bool true)))]) (.ret)) (.skip)
def k177_6 : ACode := .cond (.t 18) (.seq (.region [W1 4 (.mv (zI 1)), W1 5 (.mv (.c (.bool true)))]) (.ret)) (.seq (.region [W1 22 (.bin .eql (.t 6) (zI 5)), zV 21 22]) k177_5)
def k177_7 : ACode := .seq (.seq (.region [W1 19 (.bin .eql (.t 6) (zI 3)), zV 18 19]) k177_4) k177_6
def k177_8 : ACode := .seq (.region [W1 13 (.bin .eql (.t 6) (zI 2)), zV 12 13]) (.cond (.t 12) k177_3 k177_7)
def k177_9 : ACode := .block 0 ( .seq (.region [W1 8 (.bin .eql (.t 6) (zI 1)), zV 7 8]) (.cond (.t 7) k177_1 k177_8))
def k177_10 : ACode := .seq (.seq (.region [zV 6 0]) k177_9) (.seq (.region [W1 4 (.mv (zI 0)), W1 5 (.mv (.c (.bool false)))]) (.ret))
def c177 : ACode := .seq (.region [W1 4 (.mv (zI 0)), W1 5 (.mv (.c (.bool false)))]) k177_10
theorem ok177 : fnOk Tryz.prog 177 c177 23 [.t 4, .t 5] = true := by kernel_rfl
def w177 := aW k177_0.eq_1 (aW k177_1.eq_1 (aW k177_2.eq_1 (aW k177_3.eq_1 (aW k177_4.eq_1 (aW k177_5.eq_1 (aW k177_6.eq_1 (aW k177_7.eq_1 (aW k177_8.eq_1 (aW k177_9.eq_1 (oW k177_10.eq_1))))))))))
def k179_0 : ACode := .cond (.t 5) (.seq (.region [W1 2 (.mv (zI (-1)))]) (.ret)) (.skip)
def k179_1 : ACode := .seq (.region [zF 6 4 1, zM 7 6, W1 8 (.call 222 [(.t 7), (.c (.func 223 []))]), zV 2 8]) (.ret)
def k179_2 : ACode := .seq (.seq (.region [zL 3 5 1, W1 4 (.call 15 [(.t 3)]), zN 5 4]) k179_0) k179_1
def c179 : ACode := .seq (.region [W1 1 (.box (.t 0)), W1 2 (.mv (zI 0))]) k179_2
theorem ok179 : fnOk Tryz.prog 179 c179 9 [.t 2] = true := by kernel_rfl
def w179 := aW k179_0.eq_1 (aW k179_1.eq_1 (oW k179_2.eq_1))
def k180_0 : ACode := .cond (.t 18) (.seq (.region [W1 4 (.mv (zI 0)), W1 5 (.mv (.c (.bool false)))]) (.ret)) (.skip)
def k180_1 : ACode := .seq (.region [zV 35 7, W1 36 (.bin .add (.t 35) (zI 1)), zV 37 6, W1 38 (.bin .sub (.t 36) (.t 37)), zV 4 38, W1 5 (.mv (.c (.bool true)))]) (.ret)
def k180_2 : ACode := .seq (.region [zV 31 6, zV 32 1, W1 33 (.bin .shl (zI 1) (.t 32)), W1 34 (.bin .eql (.t 31) (.t 33))]) (.cond (.t 34) k180_1 (.skip))
def k180_3 : ACode := .seq (.seq (.region [zL 27 5 2, zV 28 7, W1 29 (.call 213 [(.t 27), (.t 28)]), W1 30 (.bin .neq (.t 29) (zI (-1)))]) (.cond (.t 30) (.region [W1 6 (.mv (zI 0))]) (.skip))) k180_2
def k180_4 : ACode := .seq (.region [zV 25 6, W1 26 (.bin .add (.t 25) (zI 1)), zV 6 26]) k180_3
def k180_5 : ACode := .seq (.block 1 ( .seq (.region [zV 24 22, zV 7 24]) k180_4)) (.region [W1 39 (.bin .add (.t 22) (zI 1)), zV 22 39])
def b180_6 : ACode := .seq (.region [W1 23 (.bin .lss (.t 22) (.t 21))]) (.seq (.cond (.t 23) (.skip) (.exit 0)) k180_5)
def k180_7 : ACode := .seq (.seq (.region [zF 19 3 2, zM 20 19, W1 21 (.len false (.t 20)), W1 22 (.mv (zI 0))]) (.block 0 ( .loop b180_6))) (.seq (.region [W1 4 (.mv (zI 0)), W1 5 (.mv (.c (.bool false)))]) (.ret))
def k180_8 : ACode := .seq (.seq (.region [zL 8 5 2, W1 9 (.call 15 [(.t 8)]), zN 10 9, zV 11 10, zU 12 1 11 false, W2 13 11 false (.bin .lss (.t 12) (zI 1)), W1 14 (.pick (.t 11) (.c (.bool true)) (.t 13)), zV 15 14, zU 16 1 15 false, W2 17 15 false (.bin .gtr (.t 16) (zI 4)), W1 18 (.pick (.t 15) (.c (.bool true)) (.t 17))]) k180_0) (.seq (.region [W1 6 (.mv (zI 0))]) k180_7)
def c180 : ACode := .seq (.region [W1 2 (.box (.t 0)), W1 4 (.mv (zI 0)), W1 5 (.mv (.c (.bool false)))]) k180_8
theorem ok180 : fnOk Tryz.prog 180 c180 40 [.t 4, .t 5] = true := by kernel_rfl
def w180 := aW k180_0.eq_1 (aW k180_1.eq_1 (aW k180_2.eq_1 (aW k180_3.eq_1 (aW k180_4.eq_1 (aW k180_5.eq_1 (aW k180_7.eq_1 (oW k180_8.eq_1)))))))
def k181_0 : ACode := .cond (.t 7) (.seq (.region [W1 8 (.build [.int .i64 0, .int .i64 0, .int .i64 0, .int .i64 0] []), zS 4 4 8]) (.ret)) (.skip)
def k181_1 : ACode := .seq (.region [zF 9 2 2, zM 10 9, zV 11 1, W1 12 (.call 224 [(.t 10), (.t 11)]), zF 13 2 2, zS 1 13 12]) (.seq (.region [zL 14 4 2, zS 4 4 14]) (.ret))
def k181_2 : ACode := .seq (.seq (.region [zL 5 4 2, W1 6 (.call 141 [(.t 5)]), zN 7 6]) k181_0) k181_1
def c181 : ACode := .seq (.region [W1 2 (.box (.t 0)), W1 4 (.new [.int .i64 0, .int .i64 0, .int .i64 0, .int .i64 0])]) k181_2
theorem ok181 : fnOk Tryz.prog 181 c181 15 [.c 4 (some 4)] = true := by kernel_rfl
def w181 := aW k181_0.eq_1 (aW k181_1.eq_1 (oW k181_2.eq_1))
def k182_0 : ACode := .cond (.t 6) (.skip) (.region [zV 13 1, W1 14 (.bin .eql (.t 13) (zI 0)), zV 6 14])
def k182_1 : ACode := .seq (.region [zV 10 1, W1 11 (.call 208 [(.t 10)]), zN 12 11, zV 6 12]) k182_0
def k182_2 : ACode := .seq (.region [W1 15 (.build [.int .i64 0, .int .i64 0, .int .i64 0, .int .i64 0] []), zS 4 4 15, W1 5 (.mv (zI 1))]) (.ret)
def k182_3 : ACode := .seq (.region [W1 21 (.build [.int .i64 0, .int .i64 0, .int .i64 0, .int .i64 0] []), zS 4 4 21, W1 5 (.mv (zI 7))]) (.ret)
def k182_4 : ACode := .seq (.region [W1 26 (.build [.int .i64 0, .int .i64 0, .int .i64 0, .int .i64 0] []), zS 4 4 26, W1 5 (.mv (zI 5))]) (.ret)
def k182_5 : ACode := .seq (.region [zF 23 3 2, zM 24 23, W1 25 (.bin .neq (.t 24) (zI 0)), zV 22 25]) (.cond (.t 22) k182_4 (.skip))
def k182_6 : ACode := .seq (.region [zF 17 0 2, zM 18 17, W1 19 (.call 209 [(.t 18)]), zN 20 19, zV 16 20]) (.cond (.t 16) k182_3 k182_5)
def k182_7 : ACode := .seq (.region [zL 29 4 2, zS 4 4 29, W1 5 (.mv (zI 0))]) (.ret)
def k182_8 : ACode := .seq (.region [zV 27 1, zF 28 3 2, zS 1 28 27]) k182_7
def k182_9 : ACode := .seq (.block 0 ( .seq (.seq (.region [zL 7 4 2, W1 8 (.call 141 [(.t 7)]), zN 9 8, zV 6 9]) (.cond (.t 6) (.skip) k182_1)) (.cond (.t 6) k182_2 k182_6))) k182_8
def c182 : ACode := .seq (.region [W1 2 (.box (.t 0)), W1 4 (.new [.int .i64 0, .int .i64 0, .int .i64 0, .int .i64 0]), W1 5 (.mv (zI 0))]) k182_9
theorem ok182 : fnOk Tryz.prog 182 c182 30 [.c 4 (some 4), .t 5] = true := by kernel_rfl
def w182 := aW k182_0.eq_1 (aW k182_1.eq_1 (aW k182_2.eq_1 (aW k182_3.eq_1 (aW k182_4.eq_1 (aW k182_5.eq_1 (aW k182_6.eq_1 (aW k182_7.eq_1 (aW k182_8.eq_1 (oW k182_9.eq_1)))))))))
def k187_0 : ACode := .seq (.region [W1 1 (.build [.int .i64 0, .int .i64 0] [(0, 1, (zI 0)), (1, 1, (zI 8))]), W1 2 (.build [.int .i64 0, .int .i64 0] [(0, 1, (zI 8)), (1, 1, (zI 8))]), W1 3 (.build [.int .i64 0, .int .i64 0] [(0, 1, (zI 16)), (1, 1, (zI 16))]), W1 4 (.build [.int .i64 0, .int .i64 0] [(0, 1, (zI 32)), (1, 1, (zI 16))]), W1 5 (.bsl 2 4 [.int .i64 0, .int .i64 0] [(0, (.t 1)), (1, (.t 2)), (2, (.t 3)), (3, (.t 4))]), zV 0 5]) (.ret)
def c187 : ACode := .seq (.region [W1 0 (.mv (.c (.lit (.slice none 0 0))))]) k187_0
theorem ok187 : fnOk Tryz.prog 187 c187 6 [.t 0] = true := by kernel_rfl
def k188_0 : ACode := .seq (.region [zL 5 1 2, W1 6 (.call 75 [(.t 5)]), zV 7 6, W2 8 7 true (.ld (some 1) (.t 2)), zU 9 1 7 true, W2 10 7 true (.call 146 [(.t 8), (.t 9)]), W1 11 (.pick (.t 7) (.t 10) (.c (.bool false))), zV 4 11]) (.ret)
def c188 : ACode := .seq (.region [W1 2 (.box (.t 0)), W1 4 (.mv (.c (.bool false)))]) k188_0
theorem ok188 : fnOk Tryz.prog 188 c188 12 [.t 4] = true := by kernel_rfl
def k191_0 : ACode := .seq (.region [zV 3 0, W1 4 (.bin .lss (.t 3) (zI 0)), zV 5 4, zU 6 0 5 false, W2 7 5 false (.bin .gtr (.t 6) (zI 15)), W1 8 (.pick (.t 5) (.c (.bool true)) (.t 7)), zV 2 8]) (.ret)
def c191 : ACode := .seq (.region [W1 2 (.mv (.c (.bool false)))]) k191_0
theorem ok191 : fnOk Tryz.prog 191 c191 9 [.t 2] = true := by kernel_rfl
def k194_0 : ACode := .seq (.region [zV 7 0, zV 8 1, W1 9 (.bin .geq (.t 7) (.t 8)), zV 10 9, zU 11 0 10 true, zU 12 2 10 true, W2 13 10 true (.bin .leq (.t 11) (.t 12)), W1 14 (.pick (.t 10) (.t 13) (.c (.bool false))), zV 6 14]) (.ret)
def c194 : ACode := .seq (.region [W1 6 (.mv (.c (.bool false)))]) k194_0
theorem ok194 : fnOk Tryz.prog 194 c194 15 [.t 6] = true := by kernel_rfl
def k195_0 : ACode := .seq (.region [zV 3 0, W1 4 (.bin .geq (.t 3) (zI 0)), zV 5 4, zU 6 0 5 true, W2 7 5 true (.bin .leq (.t 6) (zI 7)), W1 8 (.pick (.t 5) (.t 7) (.c (.bool false))), zV 2 8]) (.ret)
def c195 : ACode := .seq (.region [W1 2 (.mv (.c (.bool false)))]) k195_0
theorem ok195 : fnOk Tryz.prog 195 c195 9 [.t 2] = true := by kernel_rfl
def k196_0 : ACode := .cond (.t 9) (.seq (.region [W1 4 (.mv (.c (.lit (.slice none 0 0))))]) (.ret)) (.skip)
def k196_1 : ACode := .seq (.region [zV 15 5, W1 16 (.call 138 [(.t 15)])]) (.seq (.region [zV 17 5, zV 4 17]) (.ret))
def k196_2 : ACode := .seq (.drawn [(0, zL 10 1 2), (1, zL 11 1 2), (2, zV 12 1), (3, W1 13 (.call 235 [(.t 11), (.t 12)])), (4, W1 14 (.call 234 [(.t 10), (.t 13)])), (5, zV 5 14)] [[], [], [], [1, 2], [0, 3, 3], [4, 4, 0, 1, 2, 3, 4]] 0) k196_1
def k196_3 : ACode := .seq (.seq (.region [zL 6 1 2, zV 7 1, W1 8 (.call 188 [(.t 6), (.t 7)]), zN 9 8]) k196_0) k196_2
def c196 : ACode := .seq (.region [W1 2 (.box (.t 0)), W1 4 (.mv (.c (.lit (.slice none 0 0))))]) k196_3
theorem ok196 : fnOk Tryz.prog 196 c196 18 [.t 4] = true := by kernel_rfl
def w196 := aW k196_0.eq_1 (aW k196_1.eq_1 (aW k196_2.eq_1 (oW k196_3.eq_1)))
def k198_0 : ACode := .seq (.region [zV 6 0, W1 7 (.call 238 [(.t 6)]), zV 5 7, zE 8 5 0, zE 9 5 1, zV 3 8, zV 4 9]) (.seq (.region [zV 10 4, zV 2 10]) (.ret))
def c198 : ACode := .seq (.region [W1 2 (.mv (.c (.bool false)))]) k198_0
theorem ok198 : fnOk Tryz.prog 198 c198 11 [.t 2] = true := by kernel_rfl
def k199_0 : ACode := .seq (.drawn [(0, zF 3 1 1), (1, zM 4 3), (4, zF 7 0 1), (5, zM 8 7), (2, W1 5 (.bin .shl (.c (.int .u64 1)) (.t 4))), (3, W1 6 (.bin .sub (.t 5) (.c (.int .u64 1)))), (6, W1 9 (.bin .shl (.t 6) (.t 8))), (7, zV 2 9)] [[], [0], [1], [2], [], [4], [3, 5], [6, 0, 1, 2, 3, 4, 5, 6]] 0) (.ret)
def c199 : ACode := .seq (.region [W1 1 (.box (.t 0)), W1 2 (.mv (.c (.int .u64 0)))]) k199_0
theorem ok199 : fnOk Tryz.prog 199 c199 10 [.t 2] = true := by kernel_rfl
def k202_0 : ACode := .seq (.region [W1 22 (.build [.int .i64 0, .int .i64 0, .int .i64 0, .int .i64 0, .int .i64 0, .int .i64 0, .int .i64 0, .bool false, .int .u64 0, .int .u64 0, .int .u64 0, .int .u64 0, .int .u64 0] []), zS 13 4 22, W1 5 (.mv (.c (.bool false)))]) (.ret)
def k202_1 : ACode := .seq (.region [zF 23 4 2, zM 24 23, zF 25 1 6, zM 26 25, W1 27 (.ixs 13 (.t 24) (.t 26)), zL 28 13 27, zS 13 4 28, W1 5 (.mv (.c (.bool true)))]) (.ret)
def k202_2 : ACode := .seq (.seq (.region [zF 13 0 6, zM 14 13, W1 15 (.bin .neq (.t 14) (zI 2)), zV 16 15, W2 17 16 false (.fld 2 (.t 6)), W2 18 16 false (.ld none (.t 17)), W2 19 16 false (.call 80 [(zI 1), (.t 18)]), W2 20 16 false (.un .not (.t 19)), W1 21 (.pick (.t 16) (.c (.bool true)) (.t 20))]) (.cond (.t 21) k202_0 (.skip))) k202_1
def k202_3 : ACode := .seq (.region [zF 7 3 2, zM 8 7, zV 9 1, W1 10 (.ixs 5 (.t 8) (.t 9)), zF 11 0 10, zL 12 4 11, W1 6 (.new [.int .i64 0, .int .i64 0, .int .i64 0, .int .i64 0]), zS 4 6 12]) k202_2
def c202 : ACode := .seq (.region [W1 2 (.box (.t 0)), W1 4 (.new [.int .i64 0, .int .i64 0, .int .i64 0, .int .i64 0, .int .i64 0, .int .i64 0, .int .i64 0, .bool false, .int .u64 0, .int .u64 0, .int .u64 0, .int .u64 0, .int .u64 0]), W1 5 (.mv (.c (.bool false)))]) k202_3
theorem ok202 : fnOk Tryz.prog 202 c202 29 [.c 4 (some 13), .t 5] = true := by kernel_rfl
def w202 := aW k202_0.eq_1 (aW k202_1.eq_1 (aW k202_2.eq_1 (oW k202_3.eq_1)))
def k203_0 : ACode := .cond (.t 9) (.seq (.region [W1 4 (.mv (zI (-1)))]) (.ret)) (.skip)
def k203_1 : ACode := .seq (.region [zF 10 2 2, zM 11 10, zV 12 1, W1 13 (.bin .add (.t 11) (.t 12)), zV 4 13]) (.ret)
def k203_2 : ACode := .seq (.seq (.region [zV 5 1, zF 6 1 2, zM 7 6, W1 8 (.bin .shl (zI 1) (.t 7)), W1 9 (.bin .geq (.t 5) (.t 8))]) k203_0) k203_1
def c203 : ACode := .seq (.region [W1 2 (.box (.t 0)), W1 4 (.mv (zI 0))]) k203_2
theorem ok203 : fnOk Tryz.prog 203 c203 14 [.t 4] = true := by kernel_rfl
def w203 := aW k203_0.eq_1 (aW k203_1.eq_1 (oW k203_2.eq_1))
def k207_0 : ACode := .seq (.region [zV 7 0, zV 8 1, W1 9 (.bin .geq (.t 7) (.t 8)), zV 10 9, zU 11 0 10 true, zU 12 2 10 true, W2 13 10 true (.bin .leq (.t 11) (.t 12)), W1 14 (.pick (.t 10) (.t 13) (.c (.bool false))), zV 6 14]) (.ret)
def c207 : ACode := .seq (.region [W1 6 (.mv (.c (.bool false)))]) k207_0
theorem ok207 : fnOk Tryz.prog 207 c207 15 [.t 6] = true := by kernel_rfl
def k208_0 : ACode := .seq (.region [zV 3 0, W1 4 (.bin .geq (.t 3) (zI 0)), zV 5 4, zU 6 0 5 true, W2 7 5 true (.bin .leq (.t 6) (zI 65535)), W1 8 (.pick (.t 5) (.t 7) (.c (.bool false))), zV 2 8]) (.ret)
def c208 : ACode := .seq (.region [W1 2 (.mv (.c (.bool false)))]) k208_0
theorem ok208 : fnOk Tryz.prog 208 c208 9 [.t 2] = true := by kernel_rfl
def k209_0 : ACode := .seq (.region [zV 3 0, W1 4 (.bin .eql (.t 3) (zI 3)), zV 5 4, zU 6 0 5 false, W2 7 5 false (.bin .eql (.t 6) (zI 4)), W1 8 (.pick (.t 5) (.c (.bool true)) (.t 7)), zV 2 8]) (.ret)
def c209 : ACode := .seq (.region [W1 2 (.mv (.c (.bool false)))]) k209_0
theorem ok209 : fnOk Tryz.prog 209 c209 9 [.t 2] = true := by kernel_rfl
def k210_0 : ACode := .seq (.region [zF 7 0 1, zM 8 7, zF 9 3 1, zM 10 9, zF 11 4 1, zM 12 11, W1 13 (.build [.int .i64 0, .int .i64 0, .int .i64 0, .int .i64 0, .int .i64 0, .int .i64 0, .int .i64 0, .bool false, .int .u64 0, .int .u64 0, .int .u64 0, .int .u64 0, .int .u64 0] [(0, 1, (.t 8)), (3, 1, (.t 10)), (4, 1, (.t 12))]), zS 13 2 13]) (.ret)
def k210_1 : ACode := .seq (.region [zF 16 0 1, zM 17 16, zF 18 1 1, zM 19 18, zF 20 2 1, zM 21 20, W1 22 (.build [.int .i64 0, .int .i64 0, .int .i64 0, .int .i64 0, .int .i64 0, .int .i64 0, .int .i64 0, .bool false, .int .u64 0, .int .u64 0, .int .u64 0, .int .u64 0, .int .u64 0] [(0, 1, (.t 17)), (1, 1, (.t 19)), (2, 1, (.t 21))]), zS 13 2 22]) (.ret)
def k210_2 : ACode := .seq (.region [zF 28 0 1, zM 29 28, W1 30 (.build [.int .i64 0, .int .i64 0, .int .i64 0, .int .i64 0, .int .i64 0, .int .i64 0, .int .i64 0, .bool false, .int .u64 0, .int .u64 0, .int .u64 0, .int .u64 0, .int .u64 0] [(0, 1, (.t 29))]), zS 13 2 30]) (.ret)
def k210_3 : ACode := .seq (.region [zF 31 0 1, zM 32 31, zF 33 8 1, zM 34 33, zF 35 6 1, zM 36 35, zF 37 5 1, zM 38 37, W1 39 (.build [.int .i64 0, .int .i64 0, .int .i64 0, .int .i64 0, .int .i64 0, .int .i64 0, .int .i64 0, .bool false, .int .u64 0, .int .u64 0, .int .u64 0, .int .u64 0, .int .u64 0] [(0, 1, (.t 32)), (7, 1, (.c (.bool true))), (8, 1, (.t 34)), (6, 1, (.t 36)), (5, 1, (.t 38))]), zS 13 2 39]) (.ret)
def k210_4 : ACode := .seq (.seq (.region [zF 25 7 1, zM 26 25, zN 27 26]) (.cond (.t 27) k210_2 (.skip))) k210_3
def k210_5 : ACode := .seq (.region [zF 42 0 1, zM 43 42, zF 44 8 1, zM 45 44, W1 46 (.build [.int .i64 0, .int .i64 0, .int .i64 0, .int .i64 0, .int .i64 0, .int .i64 0, .int .i64 0, .bool false, .int .u64 0, .int .u64 0, .int .u64 0, .int .u64 0, .int .u64 0] [(0, 1, (.t 43)), (8, 1, (.t 45))]), zS 13 2 46]) (.ret)
def k210_6 : ACode := .seq (.region [zF 49 0 1, zM 50 49, zF 51 9 1, zL 52 4 51, W1 53 (.build [.int .i64 0, .int .i64 0, .int .i64 0, .int .i64 0, .int .i64 0, .int .i64 0, .int .i64 0, .bool false, .int .u64 0, .int .u64 0, .int .u64 0, .int .u64 0, .int .u64 0] [(0, 1, (.t 50)), (9, 4, (.t 52))]), zS 13 2 53]) (.ret)
def k210_7 : ACode := .seq (.region [W1 48 (.bin .eql (.t 4) (zI 5)), zV 47 48]) (.cond (.t 47) k210_6 (.skip))
def k210_8 : ACode := .seq (.region [W1 41 (.bin .eql (.t 4) (zI 4)), zV 40 41]) (.cond (.t 40) k210_5 k210_7)
def k210_9 : ACode := .seq (.region [W1 24 (.bin .eql (.t 4) (zI 3)), zV 23 24]) (.cond (.t 23) k210_4 k210_8)
def k210_10 : ACode := .seq (.region [W1 15 (.bin .eql (.t 4) (zI 2)), zV 14 15]) (.cond (.t 14) k210_1 k210_9)
def k210_11 : ACode := .block 0 ( .seq (.region [W1 6 (.bin .eql (.t 4) (zI 1)), zV 5 6]) (.cond (.t 5) k210_0 k210_10))
def k210_12 : ACode := .seq (.seq (.region [zF 3 0 1, zM 4 3]) k210_11) (.seq (.region [W1 54 (.build [.int .i64 0, .int .i64 0, .int .i64 0, .int .i64 0, .int .i64 0, .int .i64 0, .int .i64 0, .bool false, .int .u64 0, .int .u64 0, .int .u64 0, .int .u64 0, .int .u64 0] []), zS 13 2 54]) (.ret))
def c210 : ACode := .seq (.region [W1 1 (.box (.t 0)), W1 2 (.new [.int .i64 0, .int .i64 0, .int .i64 0, .int .i64 0, .int .i64 0, .int .i64 0, .int .i64 0, .bool false, .int .u64 0, .int .u64 0, .int .u64 0, .int .u64 0, .int .u64 0])]) k210_12
theorem ok210 : fnOk Tryz.prog 210 c210 55 [.c 2 (some 13)] = true := by kernel_rfl
def w210 := aW k210_0.eq_1 (aW k210_1.eq_1 (aW k210_2.eq_1 (aW k210_3.eq_1 (aW k210_4.eq_1 (aW k210_5.eq_1 (aW k210_6.eq_1 (aW k210_7.eq_1 (aW k210_8.eq_1 (aW k210_9.eq_1 (aW k210_10.eq_1 (aW k210_11.eq_1 (oW k210_12.eq_1))))))))))))
def k211_0 : ACode := .seq (.region [zV 7 0, zV 8 1, W1 9 (.bin .geq (.t 7) (.t 8)), zV 10 9, zU 11 0 10 true, zU 12 2 10 true, W2 13 10 true (.bin .leq (.t 11) (.t 12)), W1 14 (.pick (.t 10) (.t 13) (.c (.bool false))), zV 6 14]) (.ret)
def c211 : ACode := .seq (.region [W1 6 (.mv (.c (.bool false)))]) k211_0
theorem ok211 : fnOk Tryz.prog 211 c211 15 [.t 6] = true := by kernel_rfl
def k212_0 : ACode := .region [zL 41 5 3, zF 42 0 7, zF 43 1 42, zM 44 43, zV 45 2, W1 46 (.call 212 [(.t 41), (.t 44), (.t 45)])]
def k212_1 : ACode := .seq (.region [zF 21 0 7, zF 22 0 21, zM 23 22, W1 24 (.bin .eql (.t 23) (zI 2)), zV 25 24, W2 26 25 true (.fld 4 (.t 3)), W2 27 25 true (.ld none (.t 26)), zU 28 1 25 true, W2 29 25 true (.ixs 13 (.t 27) (.t 28)), W2 30 25 true (.ld (some 13) (.t 29)), zU 31 6 25 true, W2 32 25 true (.call 251 [(.t 30), (.t 31)]), W1 33 (.pick (.t 25) (.t 32) (.c (.bool false))),
 zV 34 33, W2 35 34 true (.ld (some 5) (.t 3)), W2 36 34 true (.fld 0 (.t 7)), W2 37 34 true (.fld 1 (.t 36)), W2 38 34 true (.ld none (.t 37)), W2 39 34 true (.call 142 [(.t 35), (.t 38)]), W1 40 (.pick (.t 34) (.t 39) (.c (.bool false)))]) (.cond (.t 40) k212_0 (.skip))
def k212_2 : ACode := .seq (.block 1 ( .seq (.region [zV 18 16, W1 19 (.ixs 5 (.t 14) (.t 16)), zL 20 5 19, W1 7 (.new [.int .i64 0, .int .i64 0, .int .i64 0, .int .i64 0, .int .i64 0]), zV 6 18, zS 5 7 20]) k212_1)) (.region [W1 47 (.bin .add (.t 16) (zI 1)), zV 16 47])
def b212_3 : ACode := .seq (.region [W1 17 (.bin .lss (.t 16) (.t 15))]) (.seq (.cond (.t 17) (.skip) (.exit 0)) k212_2)
def k212_4 : ACode := .seq (.region [zF 13 3 3, zM 14 13, W1 15 (.len false (.t 14)), W1 16 (.mv (zI 0))]) (.block 0 ( .loop b212_3))
def k212_5 : ACode := .seq (.region [zV 11 2, zV 12 1, ⟨none, .mup (.t 11) (.t 12) (.c (.bool true)), none⟩]) k212_4
def k212_6 : ACode := .seq (.seq (.region [zV 8 2, zV 9 1, W1 10 (.mlk (.bool false) (.t 8) (.t 9))]) (.cond (.t 10) (.ret) (.skip))) k212_5
def c212 : ACode := .seq (.region [W1 3 (.box (.t 0))]) k212_6
theorem ok212 : fnOk Tryz.prog 212 c212 48 [] = true := by kernel_rfl
def w212 := aW k212_0.eq_1 (aW k212_1.eq_1 (aW k212_2.eq_1 (aW k212_4.eq_1 (aW k212_5.eq_1 (oW k212_6.eq_1)))))
def k213_0 : ACode := .seq (.region [zF 5 4 2, zM 6 5, W1 7 (.mkf 252 [(.t 3)]), W1 8 (.call 222 [(.t 6), (.t 7)]), zV 4 8]) (.ret)
def c213 : ACode := .seq (.region [W1 2 (.box (.t 0)), W1 3 (.box (.t 1)), W1 4 (.mv (zI 0))]) k213_0
theorem ok213 : fnOk Tryz.prog 213 c213 9 [.t 4] = true := by kernel_rfl
def k214_0 : ACode := .cond (.t 5) (.seq (.region [W1 2 (.mv (zI 0))]) (.ret)) (.skip)
def k214_1 : ACode := .seq (.seq (.region [zV 3 0, W1 4 (.call 195 [(.t 3)]), zN 5 4]) k214_0) (.seq (.region [zV 6 0, zV 2 6]) (.ret))
def c214 : ACode := .seq (.region [W1 2 (.mv (zI 0))]) k214_1
theorem ok214 : fnOk Tryz.prog 214 c214 7 [.t 2] = true := by kernel_rfl
def w214 := aW k214_0.eq_1 (oW k214_1.eq_1)
def k215_0 : ACode := .cond (.t 18) (.seq (.region [W1 4 (.mv (zI (-1)))]) (.ret)) (.skip)
def k215_1 : ACode := .seq (.region [zL 19 5 2, zV 20 1, W1 21 (.call 213 [(.t 19), (.t 20)]), zV 4 21]) (.ret)
def k215_2 : ACode := .seq (.seq (.region [zL 5 5 2, W1 6 (.call 15 [(.t 5)]), zN 7 6, zV 8 7, zU 9 1 8 false, W2 10 8 false (.bin .lss (.t 9) (zI 0)), W1 11 (.pick (.t 8) (.c (.bool true)) (.t 10)), zV 12 11, zU 13 1 12 false, W2 14 12 false (.fld 3 (.t 2)), W2 15 12 false (.ld none (.t 14)), W2 16 12 false (.len false (.t 15)), W2 17 12 false (.bin .geq (.t 13) (.t 16)),
 W1 18 (.pick (.t 12) (.c (.bool true)) (.t 17))]) k215_0) k215_1
def c215 : ACode := .seq (.region [W1 2 (.box (.t 0)), W1 4 (.mv (zI 0))]) k215_2
theorem ok215 : fnOk Tryz.prog 215 c215 22 [.t 4] = true := by kernel_rfl
def w215 := aW k215_0.eq_1 (aW k215_1.eq_1 (oW k215_2.eq_1))
def k221_0 : ACode := .cond (.t 8) (.seq (.region [W1 4 (.mv (.c (.lit (.slice none 0 0))))]) (.ret)) (.skip)
def k221_1 : ACode := .seq (.region [zL 9 1 2, zV 10 1, W1 11 (.call 235 [(.t 9), (.t 10)]), zV 4 11]) (.ret)
def k221_2 : ACode := .seq (.seq (.region [zL 5 1 2, zV 6 1, W1 7 (.call 188 [(.t 5), (.t 6)]), zN 8 7]) k221_0) k221_1
def c221 : ACode := .seq (.region [W1 2 (.box (.t 0)), W1 4 (.mv (.c (.lit (.slice none 0 0))))]) k221_2
theorem ok221 : fnOk Tryz.prog 221 c221 12 [.t 4] = true := by kernel_rfl
def w221 := aW k221_0.eq_1 (aW k221_1.eq_1 (oW k221_2.eq_1))
def k223_0 : ACode := .seq (.region [zF 3 0 1, zM 4 3, W1 5 (.bin .eql (.t 4) (zI 0)), zV 2 5]) (.ret)
def c223 : ACode := .seq (.region [W1 1 (.box (.t 0)), W1 2 (.mv (.c (.bool false)))]) k223_0
theorem ok223 : fnOk Tryz.prog 223 c223 6 [.t 2] = true := by kernel_rfl
def k224_0 : ACode := .seq (.region [zV 5 0, W1 6 (.call 214 [(.t 5)]), zV 7 1, W1 8 (.call 214 [(.t 7)]), W1 9 (.bin .and (.t 6) (.t 8)), zV 4 9]) (.ret)
def c224 : ACode := .seq (.region [W1 4 (.mv (zI 0))]) k224_0
theorem ok224 : fnOk Tryz.prog 224 c224 10 [.t 4] = true := by kernel_rfl
def k225_0 : ACode := .seq (.region [zL 7 5 3, W1 8 (.call 15 [(.t 7)]), zV 9 8, zU 10 2 9 true, W2 11 9 true (.bin .geq (.t 10) (zI 0)), W1 12 (.pick (.t 9) (.t 11) (.c (.bool false))), zV 13 12, zU 14 2 13 true, W2 15 13 true (.fld 3 (.t 3)), W2 16 13 true (.ld none (.t 15)), W2 17 13 true (.len false (.t 16)), W2 18 13 true (.bin .lss (.t 14) (.t 17)), W1 19 (.pick (.t 13) (.t 18) (.c (.bool false))),
 zV 20 19, W2 21 20 true (.ld (some 5) (.t 3)), zU 22 1 20 true, zU 23 2 20 true, W2 24 20 true (.call 145 [(.t 21), (.t 22), (.t 23)]), W1 25 (.pick (.t 20) (.t 24) (.c (.bool false))), zV 6 25]) (.ret)
def c225 : ACode := .seq (.region [W1 3 (.box (.t 0)), W1 6 (.mv (.c (.bool false)))]) k225_0
theorem ok225 : fnOk Tryz.prog 225 c225 26 [.t 6] = true := by kernel_rfl
def k226_0 : ACode := .seq (.region [W1 30 (.build [.lit (.slice none 0 0)] []), zS 1 6 30, W1 7 (.mv (.c (.bool false)))]) (.ret)
def k226_1 : ACode := .region [zF 41 0 3, zM 42 41, zV 43 9, zV 44 2, W1 45 (.ixs 1 (.t 42) (.t 43)), zS 1 45 44]
def k226_2 : ACode := .seq (.block 1 ( .seq (.region [W1 39 (.ixs 1 (.t 35) (.t 37)), zM 40 39, zV 9 40]) k226_1)) (.region [W1 46 (.bin .add (.t 37) (zI 1)), zV 37 46])
def b226_3 : ACode := .seq (.region [W1 38 (.bin .lss (.t 37) (.t 36))]) (.seq (.cond (.t 38) (.skip) (.exit 0)) k226_2)
def k226_4 : ACode := .seq (.region [zL 60 1 3, zS 1 6 60, W1 7 (.mv (.c (.bool true)))]) (.ret)
def k226_5 : ACode := .seq (.region [zF 56 0 3, zM 57 56, zV 58 1, W1 59 (.ixs 1 (.t 57) (.t 58)), ⟨none, .st 1 (.t 59) (zI (-2)), none⟩]) k226_4
def k226_6 : ACode := .seq (.drawn [(0, zF 47 0 3), (1, zM 48 47), (3, zF 50 0 3), (4, zM 51 50), (5, zV 52 1), (6, W1 53 (.ixs 1 (.t 51) (.t 52))), (7, zM 54 53), (2, zV 49 2), (8, W1 55 (.ixs 1 (.t 48) (.t 49))), (9, zS 1 55 54)] [[], [0], [], [], [3], [], [4, 5], [6], [1, 2, 0, 1, 2, 3, 4, 5, 6, 7], [8, 7, 0, 1, 2, 3, 4, 5, 6, 7]] 0) k226_5
def k226_7 : ACode := .seq (.seq (.region [zL 33 1 3, zV 34 1, W1 35 (.call 235 [(.t 33), (.t 34)]), W1 36 (.len false (.t 35)), W1 37 (.mv (zI 0))]) (.block 0 ( .loop b226_3))) k226_6
def k226_8 : ACode := .seq (.region [zL 31 1 3, W1 32 (.call 255 [(.t 31)]), zS 1 3 32]) k226_7
def k226_9 : ACode := .seq (.seq (.region [zL 10 1 3, zV 11 1, W1 12 (.call 188 [(.t 10), (.t 11)]), zN 13 12, zV 14 13, zU 15 2 14 false, W2 16 14 false (.bin .lss (.t 15) (zI 0)), W1 17 (.pick (.t 14) (.c (.bool true)) (.t 16)), zV 18 17, zU 19 2 18 false, W2 20 18 false (.fld 0 (.t 3)), W2 21 18 false (.ld none (.t 20)), W2 22 18 false (.len false (.t 21)),
 W2 23 18 false (.bin .geq (.t 19) (.t 22)), W1 24 (.pick (.t 18) (.c (.bool true)) (.t 23)), zV 25 24, W2 26 25 false (.ld (some 1) (.t 3)), zU 27 2 25 false, W2 28 25 false (.call 146 [(.t 26), (.t 27)]), W1 29 (.pick (.t 25) (.c (.bool true)) (.t 28))]) (.cond (.t 29) k226_0 (.skip))) k226_8
def c226 : ACode := .seq (.region [W1 3 (.box (.t 0)), W1 6 (.new [.lit (.slice none 0 0)]), W1 7 (.mv (.c (.bool false)))]) k226_9
theorem ok226 : fnOk Tryz.prog 226 c226 61 [.c 6 (some 1), .t 7] = true := by kernel_rfl
def w226 := aW k226_0.eq_1 (aW k226_1.eq_1 (aW k226_2.eq_1 (aW k226_4.eq_1 (aW k226_5.eq_1 (aW k226_6.eq_1 (aW k226_7.eq_1 (aW k226_8.eq_1 (oW k226_9.eq_1))))))))
def k234_0 : ACode := .drawn [(1, zL 19 1 2), (2, zL 20 1 2), (3, zV 21 7), (4, W1 22 (.call 235 [(.t 20), (.t 21)])), (5, W1 23 (.call 234 [(.t 19), (.t 22)])), (0, zV 18 5), (6, W1 24 (.app 1 8 (.t 18) (.t 23))), (7, zV 5 24)] [[], [], [], [], [2, 3], [1, 4, 4], [0, 5, 5], [6, 6, 0, 1, 2, 3, 4, 5, 6]] 0
def k234_1 : ACode := .seq (.region [zV 14 5, zV 15 7, W1 16 (.bsl 1 1 [.int .i64 0] [(0, (.t 15))]), W1 17 (.app 1 8 (.t 14) (.t 16)), zV 5 17]) k234_0
def k234_2 : ACode := .seq (.block 1 ( .seq (.region [W1 12 (.ixs 1 (.t 8) (.t 10)), zM 13 12, zV 7 13]) k234_1)) (.region [W1 25 (.bin .add (.t 10) (zI 1)), zV 10 25])
def b234_3 : ACode := .seq (.region [W1 11 (.bin .lss (.t 10) (.t 9))]) (.seq (.cond (.t 11) (.skip) (.exit 0)) k234_2)
def k234_4 : ACode := .seq (.seq (.region [zV 8 1, W1 9 (.len false (.t 8)), W1 10 (.mv (zI 0))]) (.block 0 ( .loop b234_3))) (.seq (.region [zV 26 5, zV 4 26]) (.ret))
def c234 : ACode := .seq (.region [W1 2 (.box (.t 0)), W1 4 (.mv (.c (.lit (.slice none 0 0))))]) (.seq (.region [W1 5 (.mv (.c (.lit (.slice none 0 0))))]) k234_4)
theorem ok234 : fnOk Tryz.prog 234 c234 27 [.t 4] = true := by kernel_rfl
def w234 := aW k234_0.eq_1 (aW k234_1.eq_1 (aW k234_2.eq_1 (oW k234_4.eq_1)))
def k235_0 : ACode := .region [zV 19 5, zV 20 6, W1 21 (.bsl 1 1 [.int .i64 0] [(0, (.t 20))]), W1 22 (.app 1 8 (.t 19) (.t 21)), zV 5 22]
def k235_1 : ACode := .seq (.region [zV 16 7, zV 17 1, W1 18 (.bin .eql (.t 16) (.t 17))]) (.cond (.t 18) k235_0 (.skip))
def k235_2 : ACode := .seq (.block 1 ( .seq (.region [zV 13 11, W1 14 (.ixs 1 (.t 9) (.t 11)), zM 15 14, zV 6 13, zV 7 15]) k235_1)) (.region [W1 23 (.bin .add (.t 11) (zI 1)), zV 11 23])
def b235_3 : ACode := .seq (.region [W1 12 (.bin .lss (.t 11) (.t 10))]) (.seq (.cond (.t 12) (.skip) (.exit 0)) k235_2)
def k235_4 : ACode := .seq (.seq (.region [zF 8 0 2, zM 9 8, W1 10 (.len false (.t 9)), W1 11 (.mv (zI 0))]) (.block 0 ( .loop b235_3))) (.seq (.region [zV 24 5, zV 4 24]) (.ret))
def c235 : ACode := .seq (.region [W1 2 (.box (.t 0)), W1 4 (.mv (.c (.lit (.slice none 0 0))))]) (.seq (.region [W1 5 (.mv (.c (.lit (.slice none 0 0))))]) k235_4)
theorem ok235 : fnOk Tryz.prog 235 c235 25 [.t 4] = true := by kernel_rfl
def w235 := aW k235_0.eq_1 (aW k235_1.eq_1 (aW k235_2.eq_1 (oW k235_4.eq_1)))
def k238_0 : ACode := .cond (.t 40) (.seq (.region [W1 2 (.mv (.c (.int .u64 0))), W1 3 (.mv (.c (.bool false)))]) (.ret)) (.skip)
def k238_1 : ACode := .region [zV 41 4, zL 42 2 6, W1 43 (.call 199 [(.t 42)]), W1 44 (.bin .or (.t 41) (.t 43)), zV 4 44]
def k238_2 : ACode := .seq (.seq (.region [zF 13 0 6, zM 14 13, W1 15 (.bin .lss (.t 14) (zI 0)), zV 16 15, W2 17 16 false (.fld 0 (.t 6)), W2 18 16 false (.ld none (.t 17)), W2 19 16 false (.bin .geq (.t 18) (zI 64)), W1 20 (.pick (.t 16) (.c (.bool true)) (.t 19)), zV 21 20, W2 22 21 false (.fld 1 (.t 6)), W2 23 21 false (.ld none (.t 22)), W2 24 21 false (.bin .lss (.t 23) (zI 1)),
 W1 25 (.pick (.t 21) (.c (.bool true)) (.t 24)), zV 26 25, W2 27 26 false (.fld 1 (.t 6)), W2 28 26 false (.ld none (.t 27)), W2 29 26 false (.fld 0 (.t 6)), W2 30 26 false (.ld none (.t 29)), W2 31 26 false (.bin .sub (zI 64) (.t 30)), W2 32 26 false (.bin .gtr (.t 28) (.t 31)), W1 33 (.pick (.t 26) (.c (.bool true)) (.t 32)), zV 34 33, zU 35 4 34 false, W2 36 34 false (.ld (some 2) (.t 6)),
 W2 37 34 false (.call 199 [(.t 36)]), W2 38 34 false (.bin .and (.t 35) (.t 37)), W2 39 34 false (.bin .neq (.t 38) (.c (.int .u64 0))), W1 40 (.pick (.t 34) (.c (.bool true)) (.t 39))]) k238_0) k238_1
def k238_3 : ACode := .seq (.block 1 ( .seq (.region [W1 11 (.ixs 2 (.t 7) (.t 9)), zL 12 2 11, W1 6 (.new [.int .i64 0, .int .i64 0]), zS 2 6 12]) k238_2)) (.region [W1 45 (.bin .add (.t 9) (zI 1)), zV 9 45])
def b238_4 : ACode := .seq (.region [W1 10 (.bin .lss (.t 9) (.t 8))]) (.seq (.cond (.t 10) (.skip) (.exit 0)) k238_3)
def k238_5 : ACode := .seq (.region [zV 46 4, zV 2 46, W1 3 (.mv (.c (.bool true)))]) (.ret)
def k238_6 : ACode := .seq (.seq (.region [zV 7 0, W1 8 (.len false (.t 7)), W1 9 (.mv (zI 0))]) (.block 0 ( .loop b238_4))) k238_5
def c238 : ACode := .seq (.region [W1 2 (.mv (.c (.int .u64 0))), W1 3 (.mv (.c (.bool false)))]) (.seq (.region [W1 4 (.mv (.c (.int .u64 0)))]) k238_6)
theorem ok238 : fnOk Tryz.prog 238 c238 47 [.t 2, .t 3] = true := by kernel_rfl
def w238 := aW k238_0.eq_1 (aW k238_1.eq_1 (aW k238_2.eq_1 (aW k238_3.eq_1 (aW k238_5.eq_1 (oW k238_6.eq_1)))))
def k251_0 : ACode := .seq (.drawn [(0, zF 5 0 2), (1, zM 6 5), (2, W1 7 (.bin .eql (.t 6) (zI 2))), (3, zV 8 7), (5, W2 10 8 true (.fld 2 (.t 2))), (6, W2 11 8 true (.ld none (.t 10))), (4, zU 9 1 8 true), (7, W2 12 8 true (.bin .geq (.t 9) (.t 11))), (8, W1 13 (.pick (.t 8) (.t 12) (.c (.bool false)))), (9, zV 14 13), (11, W2 16 14 true (.fld 2 (.t 2))), (12, W2 17 14 true (.ld none (.t 16))),
 (13, W2 18 14 true (.fld 1 (.t 2))), (14, W2 19 14 true (.ld none (.t 18))), (10, zU 15 1 14 true), (15, W2 20 14 true (.bin .shl (zI 1) (.t 19))), (16, W2 21 14 true (.bin .add (.t 17) (.t 20))), (17, W2 22 14 true (.bin .lss (.t 15) (.t 21))), (18, W1 23 (.pick (.t 14) (.t 22) (.c (.bool false)))), (19, zV 4 23)]
 [[], [0], [1], [2], [3], [3], [5, 3], [4, 6, 3], [3, 7], [8, 3], [9], [9], [11, 9], [9], [13, 9], [14, 9], [12, 15, 9], [10, 16, 9], [9, 17], [18, 9, 0, 1, 2, 3, 4, 5, 6, 7, 8, 9, 10, 11, 12, 13, 14, 15, 16, 17, 18]] 0) (.ret)
def c251 : ACode := .seq (.region [W1 2 (.box (.t 0)), W1 4 (.mv (.c (.bool false)))]) k251_0
theorem ok251 : fnOk Tryz.prog 251 c251 24 [.t 4] = true := by kernel_rfl
def k252_0 : ACode := .seq (.region [zL 4 13 2, zM 5 1, W1 6 (.call 251 [(.t 4), (.t 5)]), zV 3 6]) (.ret)
def c252 : ACode := .seq (.region [W1 2 (.box (.t 0)), W1 3 (.mv (.c (.bool false)))]) k252_0
theorem ok252 : fnOk Tryz.prog 252 c252 7 [.t 3] = true := by kernel_rfl
def k255_0 : ACode := .seq (.region [zF 3 0 1, zM 4 3, W1 5 (.call 204 [(.t 4)]), W1 6 (.build [.lit (.slice none 0 0)] [(0, 1, (.t 5))]), zS 1 2 6]) (.ret)
def c255 : ACode := .seq (.region [W1 1 (.box (.t 0)), W1 2 (.new [.lit (.slice none 0 0)])]) k255_0
theorem ok255 : fnOk Tryz.prog 255 c255 7 [.c 2 (some 1)] = true := by kernel_rfl
end Go.Proofs.YtlaipllgmddkiaaGreat.Ax
namespace Go.Proofs.YtlaipllgmddkiaaGreat.Ax
open Go Go.Ax
set_option maxRecDepth 100000
def c2 : ACode := .wild
theorem ok2 : fnOk Tryz.prog 2 c2 1 [] = true := by kernel_rfl
def k78_0 : ACode := .cond (.t 4) (.seq (.region [W1 2 (.mv (.c (.lit (.slice none 0 0))))]) (.ret)) (.skip)
def k78_1 : ACode := .seq (.region [W1 5 (.bsl 5 0 [.int .i64 0, .int .i64 0, .int .i64 0, .int .i64 0, .int .i64 0] []), zV 6 0, W1 7 (.app 5 40 (.t 5) (.t 6)), zV 2 7]) (.ret)
def k78_2 : ACode := .seq (.seq (.region [zV 3 0, W1 4 (.isNil false 1 (.t 3))]) k78_0) k78_1
def c78 : ACode := .seq (.region [W1 2 (.mv (.c (.lit (.slice none 0 0))))]) k78_2
theorem ok78 : fnOk Tryz.prog 78 c78 8 [.t 2] = true := by kernel_rfl
def w78 := aW k78_0.eq_1 (aW k78_1.eq_1 (oW k78_2.eq_1))
def k79_0 : ACode := .cond (.t 4) (.seq (.region [W1 2 (.mv (.c (.lit (.slice none 0 0))))]) (.ret)) (.skip)
def k79_1 : ACode := .seq (.region [W1 5 (.bsl 13 0 [.int .i64 0, .int .i64 0, .int .i64 0, .int .i64 0, .int .i64 0, .int .i64 0, .int .i64 0, .bool false, .int .u64 0, .int .u64 0, .int .u64 0, .int .u64 0, .int .u64 0] []), zV 6 0, W1 7 (.app 13 104 (.t 5) (.t 6)), zV 2 7]) (.ret)
def k79_2 : ACode := .seq (.seq (.region [zV 3 0, W1 4 (.isNil false 1 (.t 3))]) k79_0) k79_1
def c79 : ACode := .seq (.region [W1 2 (.mv (.c (.lit (.slice none 0 0))))]) k79_2
theorem ok79 : fnOk Tryz.prog 79 c79 8 [.t 2] = true := by kernel_rfl
def w79 := aW k79_0.eq_1 (aW k79_1.eq_1 (oW k79_2.eq_1))
def k96_0 : ACode := .cond (.t 10) (.seq (.region [W1 4 (.mv (.c (.bool false)))]) (.ret)) (.skip)
def k96_1 : ACode := .cond (.t 24) (.seq (.region [W1 4 (.mv (.c (.bool false)))]) (.ret)) (.skip)
def k96_2 : ACode := .seq (.drawn [(0, zV 16 0), (1, zV 17 5), (2, W1 18 (.ixs 5 (.t 16) (.t 17))), (3, zL 19 5 18), (4, zV 20 1), (5, zV 21 5), (6, W1 22 (.ixs 5 (.t 20) (.t 21))), (7, zL 23 5 22), (8, W1 24 (.eqs true [0, 0, 0, 0, 0] (.t 19) (.t 23)))] [[], [], [0, 1], [2], [], [], [4, 5], [6], [3, 7]] 0) k96_1
def k96_3 : ACode := .seq (.block 1 ( .seq (.region [zV 15 13, zV 5 15]) k96_2)) (.region [W1 25 (.bin .add (.t 13) (zI 1)), zV 13 25])
def b96_4 : ACode := .seq (.region [W1 14 (.bin .lss (.t 13) (.t 12))]) (.seq (.cond (.t 14) (.skip) (.exit 0)) k96_3)
def k96_5 : ACode := .seq (.seq (.region [zV 11 0, W1 12 (.len false (.t 11)), W1 13 (.mv (zI 0))]) (.block 0 ( .loop b96_4))) (.seq (.region [W1 4 (.mv (.c (.bool true)))]) (.ret))
def k96_6 : ACode := .seq (.seq (.region [zV 6 0, W1 7 (.len false (.t 6)), zV 8 1, W1 9 (.len false (.t 8)), W1 10 (.bin .neq (.t 7) (.t 9))]) k96_0) k96_5
def c96 : ACode := .seq (.region [W1 4 (.mv (.c (.bool false)))]) k96_6
theorem ok96 : fnOk Tryz.prog 96 c96 26 [.t 4] = true := by kernel_rfl
def w96 := aW k96_0.eq_1 (aW k96_1.eq_1 (aW k96_2.eq_1 (aW k96_3.eq_1 (aW k96_5.eq_1 (oW k96_6.eq_1)))))
def k97_0 : ACode := .cond (.t 10) (.seq (.region [W1 4 (.mv (.c (.bool false)))]) (.ret)) (.skip)
def k97_1 : ACode := .cond (.t 24) (.seq (.region [W1 4 (.mv (.c (.bool false)))]) (.ret)) (.skip)
def k97_2 : ACode := .seq (.drawn [(0, zV 16 0), (1, zV 17 5), (2, W1 18 (.ixs 13 (.t 16) (.t 17))), (3, zL 19 13 18), (4, zV 20 1), (5, zV 21 5), (6, W1 22 (.ixs 13 (.t 20) (.t 21))), (7, zL 23 13 22), (8, W1 24 (.eqs true [0, 0, 0, 0, 0, 0, 0, 1, 0, 0, 0, 0, 0] (.t 19) (.t 23)))] [[], [], [0, 1], [2], [], [], [4, 5], [6], [3, 7]] 0) k97_1
def k97_3 : ACode := .seq (.block 1 ( .seq (.region [zV 15 13, zV 5 15]) k97_2)) (.region [W1 25 (.bin .add (.t 13) (zI 1)), zV 13 25])
def b97_4 : ACode := .seq (.region [W1 14 (.bin .lss (.t 13) (.t 12))]) (.seq (.cond (.t 14) (.skip) (.exit 0)) k97_3)
def k97_5 : ACode := .seq (.seq (.region [zV 11 0, W1 12 (.len false (.t 11)), W1 13 (.mv (zI 0))]) (.block 0 ( .loop b97_4))) (.seq (.region [W1 4 (.mv (.c (.bool true)))]) (.ret))
def k97_6 : ACode := .seq (.seq (.region [zV 6 0, W1 7 (.len false (.t 6)), zV 8 1, W1 9 (.len false (.t 8)), W1 10 (.bin .neq (.t 7) (.t 9))]) k97_0) k97_5
def c97 : ACode := .seq (.region [W1 4 (.mv (.c (.bool false)))]) k97_6
theorem ok97 : fnOk Tryz.prog 97 c97 26 [.t 4] = true := by kernel_rfl
def w97 := aW k97_0.eq_1 (aW k97_1.eq_1 (aW k97_2.eq_1 (aW k97_3.eq_1 (aW k97_5.eq_1 (oW k97_6.eq_1)))))
def k115_0 : ACode := .seq (.region [zV 5 0, zV 6 1, W1 7 (.call 190 [(.t 5), (.t 6)]), W1 8 (.bin .geq (.t 7) (zI 0)), zV 4 8]) (.ret)
def c115 : ACode := .seq (.region [W1 4 (.mv (.c (.bool false)))]) k115_0
theorem ok115 : fnOk Tryz.prog 115 c115 9 [.t 4] = true := by kernel_rfl
def k117_0 : ACode := .seq (.region [zV 5 0, zV 6 1, W1 7 (.call 193 [(.t 5), (.t 6)]), W1 8 (.bin .geq (.t 7) (zI 0)), zV 4 8]) (.ret)
def c117 : ACode := .seq (.region [W1 4 (.mv (.c (.bool false)))]) k117_0
theorem ok117 : fnOk Tryz.prog 117 c117 9 [.t 4] = true := by kernel_rfl
def k127_0 : ACode := .cond (.t 10) (.seq (.region [W1 4 (.mv (.c (.bool false)))]) (.ret)) (.skip)
def k127_1 : ACode := .cond (.t 24) (.seq (.region [W1 4 (.mv (.c (.bool false)))]) (.ret)) (.skip)
def k127_2 : ACode := .seq (.drawn [(0, zV 16 0), (1, zV 17 5), (2, W1 18 (.ixs 1 (.t 16) (.t 17))), (3, zM 19 18), (4, zV 20 1), (5, zV 21 5), (6, W1 22 (.ixs 1 (.t 20) (.t 21))), (7, zM 23 22), (8, W1 24 (.bin .neq (.t 19) (.t 23)))] [[], [], [0, 1], [2], [], [], [4, 5], [6], [3, 7]] 0) k127_1
def k127_3 : ACode := .seq (.block 1 ( .seq (.region [zV 15 13, zV 5 15]) k127_2)) (.region [W1 25 (.bin .add (.t 13) (zI 1)), zV 13 25])
def b127_4 : ACode := .seq (.region [W1 14 (.bin .lss (.t 13) (.t 12))]) (.seq (.cond (.t 14) (.skip) (.exit 0)) k127_3)
def k127_5 : ACode := .seq (.seq (.region [zV 11 0, W1 12 (.len false (.t 11)), W1 13 (.mv (zI 0))]) (.block 0 ( .loop b127_4))) (.seq (.region [W1 4 (.mv (.c (.bool true)))]) (.ret))
def k127_6 : ACode := .seq (.seq (.region [zV 6 0, W1 7 (.len false (.t 6)), zV 8 1, W1 9 (.len false (.t 8)), W1 10 (.bin .neq (.t 7) (.t 9))]) k127_0) k127_5
def c127 : ACode := .seq (.region [W1 4 (.mv (.c (.bool false)))]) k127_6
theorem ok127 : fnOk Tryz.prog 127 c127 26 [.t 4] = true := by kernel_rfl
def w127 := aW k127_0.eq_1 (aW k127_1.eq_1 (aW k127_2.eq_1 (aW k127_3.eq_1 (aW k127_5.eq_1 (oW k127_6.eq_1)))))
def k189_0 : ACode := .seq (.region [zV 7 0, zV 8 1, W1 9 (.call 227 [(.t 7), (.t 8)]), zE 10 9 0, zE 11 9 1, zE 12 9 2, zV 4 10, zV 5 11, zV 6 12]) (.ret)
def c189 : ACode := .seq (.region [W1 4 (.mv (.c (.str []))), W1 5 (.mv (.c (.str []))), W1 6 (.mv (.c (.bool false)))]) k189_0
theorem ok189 : fnOk Tryz.prog 189 c189 13 [.t 4, .t 5, .t 6] = true := by kernel_rfl
def k190_0 : ACode := .seq (.region [zV 5 0, zV 6 1, W1 7 (.call 228 [(.t 5), (.t 6)]), zV 4 7]) (.ret)
def c190 : ACode := .seq (.region [W1 4 (.mv (zI 0))]) k190_0
theorem ok190 : fnOk Tryz.prog 190 c190 8 [.t 4] = true := by kernel_rfl
def k192_0 : ACode := .seq (.region [zV 5 0, zV 6 1, W1 7 (.call 229 [(.t 5), (.t 6)]), W1 8 (.bin .geq (.t 7) (zI 0)), zV 4 8]) (.ret)
def c192 : ACode := .seq (.region [W1 4 (.mv (.c (.bool false)))]) k192_0
theorem ok192 : fnOk Tryz.prog 192 c192 9 [.t 4] = true := by kernel_rfl
def k193_0 : ACode := .cond (.t 12) (.seq (.region [W1 4 (.mv (zI (-1)))]) (.ret)) (.skip)
def k193_1 : ACode := .seq (.region [zV 21 0, zV 22 5, W1 23 (.call 230 [(.t 21), (.t 22)]), zV 4 23]) (.ret)
def k193_2 : ACode := .seq (.seq (.region [zV 19 5, W1 20 (.bin .geq (.t 19) (.c (.int .i32 128)))]) (.cond (.t 20) (.region [W1 5 (.mv (.c (.int .i32 65533)))]) (.skip))) k193_1
def k193_3 : ACode := .seq (.region [zV 16 1, W1 17 (.ixstr (.t 16) (zI 0)), W1 18 (.cvt .i32 (.t 17)), zV 5 18]) k193_2
def k193_4 : ACode := .cond (.t 42) (.seq (.region [zV 43 8, zV 4 43]) (.ret)) (.skip)
def k193_5 : ACode := .seq (.block 1 ( .seq (.region [zV 39 0, zV 40 8, W1 41 (.ixstr (.t 39) (.t 40)), W1 42 (.call 233 [(.t 6), (.t 41)])]) k193_4)) (.region [zV 37 8, W1 38 (.bin .add (.t 37) (zI 1)), zV 8 38])
def b193_6 : ACode := .seq (.seq (.region [zV 33 8, zV 34 0, W1 35 (.len true (.t 34)), W1 36 (.bin .lss (.t 33) (.t 35))]) (.cond (.t 36) (.skip) (.exit 0))) k193_5
def k193_7 : ACode := .seq (.seq (.region [W1 8 (.mv (zI 0))]) (.block 0 ( .loop b193_6))) (.seq (.region [W1 4 (.mv (zI (-1)))]) (.ret))
def k193_8 : ACode := .seq (.region [zV 32 7]) (.cond (.t 32) k193_7 (.skip))
def k193_9 : ACode := .seq (.region [zV 28 1, W1 29 (.call 232 [(.t 28)]), zV 27 29, zE 30 27 0, zE 31 27 1,
 W1 6 (.new (.replicate 256 (.bool false))),
 zS 256 6 30, zV 7 31]) k193_8
def k193_10 : ACode := .cond (.t 53) (.seq (.region [zV 54 9, zV 4 54]) (.ret)) (.skip)
def k193_11 : ACode := .seq (.region [zV 50 1, zV 51 10, W1 52 (.call 230 [(.t 50), (.t 51)]), W1 53 (.bin .geq (.t 52) (zI 0))]) k193_10
def k193_12 : ACode := .block 3 ( .seq (.region [zE 48 46 1, zE 49 46 2, zV 9 48, zV 10 49]) k193_11)
def b193_13 : ACode := .seq (.region [W1 46 (.nxt (.t 45)), zE 47 46 0]) (.seq (.cond (.t 47) (.skip) (.exit 2)) k193_12)
def k193_14 : ACode := .seq (.seq (.region [zV 44 0, W1 45 (.rng (.t 44))]) (.block 2 ( .loop b193_13))) (.seq (.region [W1 4 (.mv (zI (-1)))]) (.ret))
def k193_15 : ACode := .seq (.seq (.region [zV 24 0, W1 25 (.len true (.t 24)), W1 26 (.call 231 [(.t 25)])]) (.cond (.t 26) k193_9 (.skip))) k193_14
def k193_16 : ACode := .seq (.seq (.region [zV 13 1, W1 14 (.len true (.t 13)), W1 15 (.bin .eql (.t 14) (zI 1))]) (.cond (.t 15) k193_3 (.skip))) k193_15
def k193_17 : ACode := .seq (.seq (.region [zV 11 1, W1 12 (.sbin .eql (.t 11) (.c (.str [])))]) k193_0) k193_16
def c193 : ACode := .seq (.region [W1 4 (.mv (zI 0))]) k193_17
theorem ok193 : fnOk Tryz.prog 193 c193 55 [.t 4] = true := by kernel_rfl
def w193 := aW k193_0.eq_1 (aW k193_1.eq_1 (aW k193_2.eq_1 (aW k193_3.eq_1 (aW k193_4.eq_1 (aW k193_5.eq_1 (aW k193_7.eq_1 (aW k193_8.eq_1 (aW k193_9.eq_1 (aW k193_10.eq_1 (aW k193_11.eq_1 (aW k193_12.eq_1 (aW k193_14.eq_1 (aW k193_15.eq_1 (aW k193_16.eq_1 (oW k193_17.eq_1)))))))))))))))
def k204_0 : ACode := .cond (.t 4) (.seq (.region [W1 2 (.mv (.c (.lit (.slice none 0 0))))]) (.ret)) (.skip)
def k204_1 : ACode := .seq (.region [W1 5 (.bsl 1 0 [.int .i64 0] []), zV 6 0, W1 7 (.app 1 8 (.t 5) (.t 6)), zV 2 7]) (.ret)
def k204_2 : ACode := .seq (.seq (.region [zV 3 0, W1 4 (.isNil false 1 (.t 3))]) k204_0) k204_1
def c204 : ACode := .seq (.region [W1 2 (.mv (.c (.lit (.slice none 0 0))))]) k204_2
theorem ok204 : fnOk Tryz.prog 204 c204 8 [.t 2] = true := by kernel_rfl
def w204 := aW k204_0.eq_1 (aW k204_1.eq_1 (oW k204_2.eq_1))
def k222_0 : ACode := .cond (.t 16) (.seq (.region [zV 17 5, zV 4 17]) (.ret)) (.skip)
def k222_1 : ACode := .seq (.region [zV 11 1, zV 12 0, zV 13 5, W1 14 (.ixs 13 (.t 12) (.t 13)), zL 15 13 14, W1 16 (.callv (.t 11) [(.t 15)])]) k222_0
def k222_2 : ACode := .seq (.block 1 ( .seq (.region [zV 10 8, zV 5 10]) k222_1)) (.region [W1 18 (.bin .add (.t 8) (zI 1)), zV 8 18])
def b222_3 : ACode := .seq (.region [W1 9 (.bin .lss (.t 8) (.t 7))]) (.seq (.cond (.t 9) (.skip) (.exit 0)) k222_2)
def k222_4 : ACode := .seq (.seq (.region [zV 6 0, W1 7 (.len false (.t 6)), W1 8 (.mv (zI 0))]) (.block 0 ( .loop b222_3))) (.seq (.region [W1 4 (.mv (zI (-1)))]) (.ret))
def c222 : ACode := .seq (.region [W1 4 (.mv (zI 0))]) k222_4
theorem ok222 : fnOk Tryz.prog 222 c222 19 [.t 4] = true := by kernel_rfl
def w222 := aW k222_0.eq_1 (aW k222_1.eq_1 (aW k222_2.eq_1 (oW k222_4.eq_1)))
def k227_0 : ACode := .seq (.drawn [(0, zV 13 0), (1, zV 14 7), (2, W1 15 (.sstr (.t 13) none (some (.t 14)))), (3, zV 16 0), (4, zV 17 7), (5, zV 18 1), (6, W1 19 (.len true (.t 18))), (7, W1 20 (.bin .add (.t 17) (.t 19))), (8, W1 21 (.sstr (.t 16) (some (.t 20)) none)), (9, zV 4 15), (10, zV 5 21), (11, W1 6 (.mv (.c (.bool true))))] [[], [], [0, 1], [], [], [], [5], [4, 6], [3, 7], [2, 0, 1, 2], [8, 9, 0, 1, 2, 3, 4, 5, 6, 7, 8, 9], [10, 0, 1, 2, 3, 4, 5, 6, 7, 8, 9, 10]] 0) (.ret)
def k227_1 : ACode := .seq (.region [zV 11 7, W1 12 (.bin .geq (.t 11) (zI 0))]) (.cond (.t 12) k227_0 (.skip))
def k227_2 : ACode := .seq (.region [zV 22 0, zV 4 22, W1 5 (.mv (.c (.str []))), W1 6 (.mv (.c (.bool false)))]) (.ret)
def k227_3 : ACode := .seq (.seq (.region [zV 8 0, zV 9 1, W1 10 (.call 228 [(.t 8), (.t 9)]), zV 7 10]) k227_1) k227_2
def c227 : ACode := .seq (.region [W1 4 (.mv (.c (.str []))), W1 5 (.mv (.c (.str []))), W1 6 (.mv (.c (.bool false)))]) k227_3
theorem ok227 : fnOk Tryz.prog 227 c227 23 [.t 4, .t 5, .t 6] = true := by kernel_rfl
def w227 := aW k227_0.eq_1 (aW k227_1.eq_1 (aW k227_2.eq_1 (oW k227_3.eq_1)))
def k228_0 : ACode := .seq (.region [zV 27 0, zV 28 1, W1 29 (.ixstr (.t 28) (zI 0)), W1 30 (.call 256 [(.t 27), (.t 29)]), zV 4 30]) (.ret)
def k228_1 : ACode := .seq (.wild) (.cond (.t 36) (.seq (.wild) (.ret)) (.skip))
def k228_2 : ACode := .cond (.t 31) (.seq (.region [W1 4 (.mv (zI (-1)))]) (.ret)) k228_1
def k228_3 : ACode := .seq (.region [zV 32 5, zV 33 0, W1 34 (.len true (.t 33)), W1 35 (.bin .geq (.t 32) (.t 34)), zV 31 35]) k228_2
def k228_4 : ACode := .seq (.region [zV 25 5, W1 26 (.bin .eql (.t 25) (zI 1)), zV 24 26]) (.cond (.t 24) k228_0 k228_3)
def k228_5 : ACode := .cond (.t 16) (.seq (.region [W1 4 (.mv (zI 0))]) (.ret)) k228_4
def k228_6 : ACode := .cond (.t 73) (.seq (.region [W1 4 (.mv (zI (-1)))]) (.ret)) (.skip)
def k228_7 : ACode := .region [zV 74 8, zV 75 11, W1 76 (.bin .add (.t 75) (zI 1)), W1 77 (.bin .add (.t 74) (.t 76)), zV 8 77]
def k228_8 : ACode := .seq (.seq (.region [zV 72 11, W1 73 (.bin .lss (.t 72) (zI 0))]) k228_6) k228_7
def k228_9 : ACode := .seq (.region [zV 65 0, zV 66 8, W1 67 (.bin .add (.t 66) (zI 1)), zV 68 9, W1 69 (.sstr (.t 65) (some (.t 67)) (some (.t 68))), zV 70 6, W1 71 (.call 256 [(.t 69), (.t 70)]), zV 11 71]) k228_8
def k228_10 : ACode := .cond (.t 93) (.seq (.region [zV 94 8, zV 4 94]) (.ret)) (.skip)
def k228_11 : ACode := .seq (.region [zV 115 12, zV 116 8, W1 117 (.bin .add (.t 115) (.t 116)), zV 4 117]) (.ret)
def k228_12 : ACode := .seq (.seq (.region [zV 113 12, W1 114 (.bin .geq (.t 113) (zI 0))]) (.cond (.t 114) k228_11 (.skip))) (.seq (.region [W1 4 (.mv (zI (-1)))]) (.ret))
def k228_13 : ACode := .cond (.t 139) (.seq (.region [W1 4 (.mv (zI (-1)))]) (.ret)) (.skip)
def k228_14 : ACode := .seq (.region [zV 140 8, zV 141 13, W1 142 (.bin .add (.t 140) (.t 141)), zV 4 142]) (.ret)
def k228_15 : ACode := .seq (.seq (.region [zV 138 13, W1 139 (.bin .lss (.t 138) (zI 0))]) k228_13) k228_14
def k228_16 : ACode := .seq (.region [zV 133 0, zV 134 8, W1 135 (.sstr (.t 133) (some (.t 134)) none), zV 136 1, W1 137 (.call 259 [(.t 135), (.t 136)]), zV 13 137]) k228_15
def k228_17 : ACode := .cond (.t 107) (.seq (.wild) k228_12) (.seq (.wild) (.cond (.t 132) k228_16 (.skip)))
def k228_18 : ACode := .seq (.region [zV 97 10, W1 98 (.bin .add (.t 97) (zI 1)), zV 10 98]) (.seq (.wild) k228_17)
def k228_19 : ACode := .seq (.region [zV 95 8, W1 96 (.bin .add (.t 95) (zI 1)), zV 8 96]) k228_18
def k228_20 : ACode := .seq (.seq (.region [zV 78 0, zV 79 8, W1 80 (.bin .add (.t 79) (zI 1)), W1 81 (.ixstr (.t 78) (.t 80)), zV 82 7, W1 83 (.bin .eql (.t 81) (.t 82)), zV 84 83, zU 85 0 84 true, zU 86 8 84 true, zU 87 8 84 true, zU 88 5 84 true, W2 89 84 true (.bin .add (.t 87) (.t 88)), W2 90 84 true (.sstr (.t 85) (some (.t 86)) (some (.t 89))), zU 91 1 84 true,
 W2 92 84 true (.sbin .eql (.t 90) (.t 91)), W1 93 (.pick (.t 84) (.t 92) (.c (.bool false)))]) k228_10) k228_19
def k228_21 : ACode := .block 2 ( .seq (.seq (.region [zV 60 0, zV 61 8, W1 62 (.ixstr (.t 60) (.t 61)), zV 63 6, W1 64 (.bin .neq (.t 62) (.t 63))]) (.cond (.t 64) k228_9 (.skip))) k228_20)
def b228_22 : ACode := .seq (.seq (.region [zV 57 8, zV 58 9, W1 59 (.bin .lss (.t 57) (.t 58))]) (.cond (.t 59) (.skip) (.exit 1))) k228_21
def k228_23 : ACode := .seq (.block 1 ( .loop b228_22)) (.seq (.region [W1 4 (.mv (zI (-1)))]) (.ret))
def k228_24 : ACode := .seq (.region [zV 52 0, W1 53 (.len true (.t 52)), zV 54 5, W1 55 (.bin .sub (.t 53) (.t 54)), W1 56 (.bin .add (.t 55) (zI 1)), zV 9 56]) (.seq (.region [W1 10 (.mv (zI 0))]) k228_23)
def k228_25 : ACode := .seq (.region [zV 50 1, W1 51 (.ixstr (.t 50) (zI 1)), zV 7 51]) (.seq (.region [W1 8 (.mv (zI 0))]) k228_24)
def k228_26 : ACode := .seq (.region [zV 48 1, W1 49 (.ixstr (.t 48) (zI 0)), zV 6 49]) k228_25
def k228_27 : ACode := .seq (.block 0 ( .seq (.region [zV 17 5, W1 18 (.bin .eql (.t 17) (zI 0)), zV 19 18, zU 20 1 19 false, zU 21 0 19 false, W2 22 19 false (.sbin .eql (.t 20) (.t 21)), W1 23 (.pick (.t 19) (.c (.bool true)) (.t 22)), zV 16 23]) k228_5)) k228_26
def k228_28 : ACode := .seq (.region [zV 14 1, W1 15 (.len true (.t 14)), zV 5 15]) k228_27
def c228 : ACode := .seq (.region [W1 4 (.mv (zI 0))]) k228_28
theorem ok228 : fnOk Tryz.prog 228 c228 143 [.t 4] = true := by kernel_rfl
def w228 := aW k228_0.eq_1 (aW k228_1.eq_1 (aW k228_2.eq_1 (aW k228_3.eq_1 (aW k228_4.eq_1 (aW k228_5.eq_1 (aW k228_6.eq_1 (aW k228_7.eq_1 (aW k228_8.eq_1 (aW k228_9.eq_1 (aW k228_10.eq_1 (aW k228_11.eq_1 (aW k228_12.eq_1 (aW k228_13.eq_1 (aW k228_14.eq_1 (aW k228_15.eq_1 (aW k228_16.eq_1 (aW k228_17.eq_1 (aW k228_18.eq_1 (aW k228_19.eq_1 (aW k228_20.eq_1 (aW k228_21.eq_1 (aW k228_23.eq_1 (aW k228_24.eq_1 (aW k228_25.eq_1 (aW k228_26.eq_1 (aW k228_27.eq_1 (oW k228_28.eq_1)))))))))))))))))))))))))))
def k229_0 : ACode := .cond (.t 16) (.seq (.region [zV 17 5, zV 4 17]) (.ret)) (.skip)
def k229_1 : ACode := .seq (.region [zV 11 1, zV 12 0, zV 13 5, W1 14 (.ixs 1 (.t 12) (.t 13)), zM 15 14, W1 16 (.callv (.t 11) [(.t 15)])]) k229_0
def k229_2 : ACode := .seq (.block 1 ( .seq (.region [zV 10 8, zV 5 10]) k229_1)) (.region [W1 18 (.bin .add (.t 8) (zI 1)), zV 8 18])
def b229_3 : ACode := .seq (.region [W1 9 (.bin .lss (.t 8) (.t 7))]) (.seq (.cond (.t 9) (.skip) (.exit 0)) k229_2)
def k229_4 : ACode := .seq (.seq (.region [zV 6 0, W1 7 (.len false (.t 6)), W1 8 (.mv (zI 0))]) (.block 0 ( .loop b229_3))) (.seq (.region [W1 4 (.mv (zI (-1)))]) (.ret))
def c229 : ACode := .seq (.region [W1 4 (.mv (zI 0))]) k229_4
theorem ok229 : fnOk Tryz.prog 229 c229 19 [.t 4] = true := by kernel_rfl
def w229 := aW k229_0.eq_1 (aW k229_1.eq_1 (aW k229_2.eq_1 (oW k229_4.eq_1)))
def k230_0 : ACode := .seq (.region [zV 167 0, zV 168 1, W1 169 (.cvt .u8 (.t 168)), W1 170 (.call 260 [(.t 167), (.t 169)]), zV 4 170]) (.ret)
def k230_1 : ACode := .cond (.t 181) (.seq (.region [zV 182 5, zV 4 182]) (.ret)) (.skip)
def k230_2 : ACode := .block 10 ( .seq (.region [zE 178 176 1, zE 179 176 2, zV 5 178, zV 6 179]) (.seq (.region [zV 180 6, W1 181 (.bin .eql (.t 180) (.c (.int .i32 65533)))]) k230_1))
def b230_3 : ACode := .seq (.region [W1 176 (.nxt (.t 175)), zE 177 176 0]) (.seq (.cond (.t 177) (.skip) (.exit 9)) k230_2)
def k230_4 : ACode := .seq (.seq (.region [zV 174 0, W1 175 (.rng (.t 174))]) (.block 9 ( .loop b230_3))) (.seq (.region [W1 4 (.mv (zI (-1)))]) (.ret))
def k230_5 : ACode := .cond (.t 183) (.seq (.region [W1 4 (.mv (zI (-1)))]) (.ret)) (.wild)
def k230_6 : ACode := .seq (.region [zV 184 1, W1 185 (.call 261 [(.t 184)]), zN 186 185, zV 183 186]) k230_5
def k230_7 : ACode := .seq (.region [zV 172 1, W1 173 (.bin .eql (.t 172) (.c (.int .i32 65533))), zV 171 173]) (.cond (.t 171) k230_4 k230_6)
def k230_8 : ACode := .block 0 ( .seq (.region [zV 161 1, W1 162 (.bin .leq (.c (.int .i32 0)) (.t 161)), zV 163 162, zU 164 1 163 true, W2 165 163 true (.bin .lss (.t 164) (.c (.int .i32 128))), W1 166 (.pick (.t 163) (.t 165) (.c (.bool false))), zV 160 166]) (.cond (.t 160) k230_0 k230_7))
def c230 : ACode := .seq (.region [W1 4 (.mv (zI 0))]) k230_8
theorem ok230 : fnOk Tryz.prog 230 c230 187 [.t 4] = true := by kernel_rfl
def w230 := aW k230_0.eq_1 (aW k230_1.eq_1 (aW k230_2.eq_1 (aW k230_4.eq_1 (aW k230_5.eq_1 (aW k230_6.eq_1 (aW k230_7.eq_1 (oW k230_8.eq_1)))))))
def k231_0 : ACode := .seq (.region [zV 3 0, W1 4 (.bin .gtr (.t 3) (zI 8)), zV 2 4]) (.ret)
def c231 : ACode := .seq (.region [W1 2 (.mv (.c (.bool false)))]) k231_0
theorem ok231 : fnOk Tryz.prog 231 c231 5 [.t 2] = true := by kernel_rfl
def k232_0 : ACode := .seq (.region [zL 17 256 2, zS 256 2 17, W1 3 (.mv (.c (.bool false)))]) (.ret)
def k232_1 : ACode := .seq (.seq (.region [zV 15 5, W1 16 (.bin .geq (.t 15) (.c (.int .u8 128)))]) (.cond (.t 16) k232_0 (.skip))) (.region [zV 18 5, W1 19 (.ixa 256 1 (.t 2) (.t 18)), ⟨none, .st 1 (.t 19) (.c (.bool true)), none⟩])
def k232_2 : ACode := .seq (.block 1 ( .seq (.region [zV 12 0, zV 13 4, W1 14 (.ixstr (.t 12) (.t 13)), zV 5 14]) k232_1)) (.region [zV 10 4, W1 11 (.bin .add (.t 10) (zI 1)), zV 4 11])
def b232_3 : ACode := .seq (.seq (.region [zV 6 4, zV 7 0, W1 8 (.len true (.t 7)), W1 9 (.bin .lss (.t 6) (.t 8))]) (.cond (.t 9) (.skip) (.exit 0))) k232_2
def k232_4 : ACode := .seq (.region [zL 20 256 2, zS 256 2 20, W1 3 (.mv (.c (.bool true)))]) (.ret)
def k232_5 : ACode := .seq (.seq (.region [W1 4 (.mv (zI 0))]) (.block 0 ( .loop b232_3))) k232_4
def c232 : ACode := .seq (.region [
 W1 2 (.new (.replicate 256 (.bool false))),
 W1 3 (.mv (.c (.bool false)))]) k232_5
theorem ok232 : fnOk Tryz.prog 232 c232 21 [.c 2 (some 256), .t 3] = true := by kernel_rfl
def w232 := aW k232_0.eq_1 (aW k232_1.eq_1 (aW k232_2.eq_1 (aW k232_4.eq_1 (oW k232_5.eq_1))))
def k233_0 : ACode := .seq (.region [zV 5 0, zV 6 1, W1 7 (.nck (.t 5)), W1 8 (.ixa 256 1 (.t 7) (.t 6)), zM 9 8, zV 4 9]) (.ret)
def c233 : ACode := .seq (.region [W1 4 (.mv (.c (.bool false)))]) k233_0
theorem ok233 : fnOk Tryz.prog 233 c233 10 [.t 4] = true := by kernel_rfl
def c256 : ACode := .seq (.region [W1 4 (.mv (zI 0))]) (.seq (.wild) (.ret))
theorem ok256 : fnOk Tryz.prog 256 c256 8 [.t 4] = true := by kernel_rfl
def k259_0 : ACode := .seq (.block 1 ( .region [zV 23 8, W1 24 (.bin .mul (.t 23) (.c (.int .u32 16777619))), zV 25 0, zV 26 9, W1 27 (.ixstr (.t 25) (.t 26)), W1 28 (.cvt .u32 (.t 27)), W1 29 (.bin .add (.t 24) (.t 28)), zV 8 29])) (.region [zV 21 9, W1 22 (.bin .add (.t 21) (zI 1)), zV 9 22])
def b259_1 : ACode := .seq (.seq (.region [zV 18 9, zV 19 7, W1 20 (.bin .lss (.t 18) (.t 19))]) (.cond (.t 20) (.skip) (.exit 0))) k259_0
def k259_2 : ACode := .cond (.t 39) (.seq (.region [W1 4 (.mv (zI 0))]) (.ret)) (.skip)
def k259_3 : ACode := .seq (.region [zV 78 10, zV 79 7, W1 80 (.bin .sub (.t 78) (.t 79)), zV 4 80]) (.ret)
def k259_4 : ACode := .seq (.region [zV 65 8, zV 66 5, W1 67 (.bin .eql (.t 65) (.t 66)), zV 68 67, zU 69 0 68 true, zU 70 10 68 true, zU 71 7 68 true, W2 72 68 true (.bin .sub (.t 70) (.t 71)), zU 73 10 68 true, W2 74 68 true (.sstr (.t 69) (some (.t 72)) (some (.t 73))), zU 75 1 68 true, W2 76 68 true (.sbin .eql (.t 74) (.t 75)),
 W1 77 (.pick (.t 68) (.t 76) (.c (.bool false)))]) (.cond (.t 77) k259_3 (.skip))
def k259_5 : ACode := .seq (.region [zV 63 10, W1 64 (.bin .add (.t 63) (zI 1)), zV 10 64]) k259_4
def k259_6 : ACode := .seq (.region [zV 53 8, zV 54 6, zV 55 0, zV 56 10, zV 57 7, W1 58 (.bin .sub (.t 56) (.t 57)), W1 59 (.ixstr (.t 55) (.t 58)), W1 60 (.cvt .u32 (.t 59)), W1 61 (.bin .mul (.t 54) (.t 60)), W1 62 (.bin .sub (.t 53) (.t 61)), zV 8 62]) k259_5
def k259_7 : ACode := .seq (.region [zV 47 8, zV 48 0, zV 49 10, W1 50 (.ixstr (.t 48) (.t 49)), W1 51 (.cvt .u32 (.t 50)), W1 52 (.bin .add (.t 47) (.t 51)), zV 8 52]) k259_6
def k259_8 : ACode := .block 3 ( .seq (.region [zV 45 8, W1 46 (.bin .mul (.t 45) (.c (.int .u32 16777619))), zV 8 46]) k259_7)
def b259_9 : ACode := .seq (.seq (.region [zV 41 10, zV 42 0, W1 43 (.len true (.t 42)), W1 44 (.bin .lss (.t 41) (.t 43))]) (.cond (.t 44) (.skip) (.exit 2))) k259_8
def k259_10 : ACode := .seq (.seq (.region [zV 40 7, zV 10 40]) (.block 2 ( .loop b259_9))) (.seq (.region [W1 4 (.mv (zI (-1)))]) (.ret))
def k259_11 : ACode := .seq (.seq (.region [zV 30 8, zV 31 5, W1 32 (.bin .eql (.t 30) (.t 31)), zV 33 32, zU 34 0 33 true, zU 35 7 33 true, W2 36 33 true (.sstr (.t 34) none (some (.t 35))), zU 37 1 33 true, W2 38 33 true (.sbin .eql (.t 36) (.t 37)), W1 39 (.pick (.t 33) (.t 38) (.c (.bool false)))]) k259_2) k259_10
def k259_12 : ACode := .seq (.seq (.region [W1 9 (.mv (zI 0))]) (.block 0 ( .loop b259_1))) k259_11
def k259_13 : ACode := .seq (.region [zV 16 1, W1 17 (.len true (.t 16)), zV 7 17]) (.seq (.region [W1 8 (.mv (.c (.int .u32 0)))]) k259_12)
def k259_14 : ACode := .seq (.region [zV 12 1, W1 13 (.call 270 [(.t 12)]), zV 11 13, zE 14 11 0, zE 15 11 1, zV 5 14, zV 6 15]) k259_13
def c259 : ACode := .seq (.region [W1 4 (.mv (zI 0))]) k259_14
theorem ok259 : fnOk Tryz.prog 259 c259 81 [.t 4] = true := by kernel_rfl
def w259 := aW k259_0.eq_1 (aW k259_2.eq_1 (aW k259_3.eq_1 (aW k259_4.eq_1 (aW k259_5.eq_1 (aW k259_6.eq_1 (aW k259_7.eq_1 (aW k259_8.eq_1 (aW k259_10.eq_1 (aW k259_11.eq_1 (aW k259_12.eq_1 (aW k259_13.eq_1 (oW k259_14.eq_1))))))))))))
def k260_0 : ACode := .seq (.region [zV 5 0, zV 6 1, W1 7 (.call 256 [(.t 5), (.t 6)]), zV 4 7]) (.ret)
def c260 : ACode := .seq (.region [W1 4 (.mv (zI 0))]) k260_0
theorem ok260 : fnOk Tryz.prog 260 c260 8 [.t 4] = true := by kernel_rfl
def k261_0 : ACode := .cond (.t 10) (.seq (.region [W1 2 (.mv (.c (.bool true)))]) (.ret)) (.skip)
def k261_1 : ACode := .seq (.region [zV 11 0, W1 12 (.bin .lss (.c (.int .i32 57343)) (.t 11)), zV 13 12, zU 14 0 13 true, W2 15 13 true (.bin .leq (.t 14) (.c (.int .i32 1114111))), W1 16 (.pick (.t 13) (.t 15) (.c (.bool false))), zV 10 16]) k261_0
def k261_2 : ACode := .cond (.t 3) (.seq (.region [W1 2 (.mv (.c (.bool true)))]) (.ret)) k261_1
def k261_3 : ACode := .seq (.block 0 ( .seq (.region [zV 4 0, W1 5 (.bin .leq (.c (.int .i32 0)) (.t 4)), zV 6 5, zU 7 0 6 true, W2 8 6 true (.bin .lss (.t 7) (.c (.int .i32 55296))), W1 9 (.pick (.t 6) (.t 8) (.c (.bool false))), zV 3 9]) k261_2)) (.seq (.region [W1 2 (.mv (.c (.bool false)))]) (.ret))
def c261 : ACode := .seq (.region [W1 2 (.mv (.c (.bool false)))]) k261_3
theorem ok261 : fnOk Tryz.prog 261 c261 17 [.t 2] = true := by kernel_rfl
def w261 := aW k261_0.eq_1 (aW k261_1.eq_1 (aW k261_2.eq_1 (oW k261_3.eq_1)))
def k270_0 : ACode := .seq (.block 1 ( .region [zV 15 4, W1 16 (.bin .mul (.t 15) (.c (.int .u32 16777619))), zV 17 0, zV 18 5, W1 19 (.ixstr (.t 17) (.t 18)), W1 20 (.cvt .u32 (.t 19)), W1 21 (.bin .add (.t 16) (.t 20)), zV 4 21])) (.region [zV 13 5, W1 14 (.bin .add (.t 13) (zI 1)), zV 5 14])
def b270_1 : ACode := .seq (.seq (.region [zV 9 5, zV 10 0, W1 11 (.len true (.t 10)), W1 12 (.bin .lss (.t 9) (.t 11))]) (.cond (.t 12) (.skip) (.exit 0))) k270_0
def k270_2 : ACode := .region [zV 31 6, zV 32 7, W1 33 (.bin .mul (.t 31) (.t 32)), zV 6 33]
def k270_3 : ACode := .region [zV 34 7, zV 35 7, W1 36 (.bin .mul (.t 34) (.t 35)), zV 7 36]
def k270_4 : ACode := .seq (.block 3 ( .seq (.seq (.region [zV 28 8, W1 29 (.bin .and (.t 28) (zI 1)), W1 30 (.bin .neq (.t 29) (zI 0))]) (.cond (.t 30) k270_2 (.skip))) k270_3)) (.region [zV 26 8, W1 27 (.bin .shr (.t 26) (.c (.int .u64 1))), zV 8 27])
def b270_5 : ACode := .seq (.seq (.region [zV 24 8, W1 25 (.bin .gtr (.t 24) (zI 0))]) (.cond (.t 25) (.skip) (.exit 2))) k270_4
def k270_6 : ACode := .seq (.region [zV 37 4, zV 38 6, zV 2 37, zV 3 38]) (.ret)
def k270_7 : ACode := .seq (.seq (.region [zV 22 0, W1 23 (.len true (.t 22)), zV 8 23]) (.block 2 ( .loop b270_5))) k270_6
def k270_8 : ACode := .seq (.seq (.region [W1 5 (.mv (zI 0))]) (.block 0 ( .loop b270_1))) (.seq (.region [W1 6 (.mv (.c (.int .u32 1))), W1 7 (.mv (.c (.int .u32 16777619)))]) k270_7)
def c270 : ACode := .seq (.region [W1 2 (.mv (.c (.int .u32 0))), W1 3 (.mv (.c (.int .u32 0)))]) (.seq (.region [W1 4 (.mv (.c (.int .u32 0)))]) k270_8)
theorem ok270 : fnOk Tryz.prog 270 c270 39 [.t 2, .t 3] = true := by kernel_rfl
def w270 := aW k270_0.eq_1 (aW k270_2.eq_1 (aW k270_3.eq_1 (aW k270_4.eq_1 (aW k270_6.eq_1 (aW k270_7.eq_1 (oW k270_8.eq_1))))))
def k271_0 : ACode := .seq (.region [zV 5 0, zV 6 1, W1 7 (.call 274 [(.t 5), (.t 6)]), W1 8 (.bin .geq (.t 7) (zI 0)), zV 4 8]) (.ret)
def c271 : ACode := .seq (.region [W1 4 (.mv (.c (.bool false)))]) k271_0
theorem ok271 : fnOk Tryz.prog 271 c271 9 [.t 4] = true := by kernel_rfl
def k274_0 : ACode := .cond (.t 16) (.seq (.region [zV 17 5, zV 4 17]) (.ret)) (.skip)
def k274_1 : ACode := .seq (.region [zV 11 1, zV 12 0, zV 13 5, W1 14 (.ixs 5 (.t 12) (.t 13)), zL 15 5 14, W1 16 (.callv (.t 11) [(.t 15)])]) k274_0
def k274_2 : ACode := .seq (.block 1 ( .seq (.region [zV 10 8, zV 5 10]) k274_1)) (.region [W1 18 (.bin .add (.t 8) (zI 1)), zV 8 18])
def b274_3 : ACode := .seq (.region [W1 9 (.bin .lss (.t 8) (.t 7))]) (.seq (.cond (.t 9) (.skip) (.exit 0)) k274_2)
def k274_4 : ACode := .seq (.seq (.region [zV 6 0, W1 7 (.len false (.t 6)), W1 8 (.mv (zI 0))]) (.block 0 ( .loop b274_3))) (.seq (.region [W1 4 (.mv (zI (-1)))]) (.ret))
def c274 : ACode := .seq (.region [W1 4 (.mv (zI 0))]) k274_4
theorem ok274 : fnOk Tryz.prog 274 c274 19 [.t 4] = true := by kernel_rfl
def w274 := aW k274_0.eq_1 (aW k274_1.eq_1 (aW k274_2.eq_1 (oW k274_4.eq_1)))
end Go.Proofs.YtlaipllgmddkiaaGreat.Ax
