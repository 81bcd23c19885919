/- Texts put behind one another: AxCLib, AxCBase. Conditions: none. -/
import Derived.Test.YtipigjckoejfpaaGreatAxEnterZ
import Derived.Test.YtipigjckoejfpaaGreatProg
import Derived.KernelRfl
set_option linter.unusedSimpArgs false
set_option linter.unusedVariables false
/- The code of functions of the program, for our abstract machine; each is tied to the program by a closed test. Written by gen.py. Conditions: none. -/
namespace Go.Proofs.YtipigjckoejfpaaGreat.Ax
open Go Go.Ax
set_option maxRecDepth 100000

def c2 : ACode := .wild
theorem ok2 : fnOk Tryz.prog 2 c2 1 [] = true := by kernel_rfl

def k102_0 : ACode := .cond (.t 4) (.seq (.region [W1 2 (.mv (.c (.lit (.slice none 0 0))))]) (.ret)) (.skip)

def k102_1 : ACode := .seq (.region [W1 5 (.bsl 5 0 [.int .i64 0, .int .i64 0, .int .i64 0, .int .i64 0, .int .i64 0] []), W1 6 (.mv (.t 0)), W1 7 (.app 5 40 (.t 5) (.t 6)), W1 2 (.mv (.t 7))]) (.ret)

def k102_2 : ACode := .seq (.seq (.region [W1 3 (.mv (.t 0)), W1 4 (.isNil false 1 (.t 3))]) k102_0) k102_1

def c102 : ACode := .seq (.region [W1 2 (.mv (.c (.lit (.slice none 0 0))))]) k102_2
theorem ok102 : fnOk Tryz.prog 102 c102 8 [.t 2] = true := by kernel_rfl

def k103_0 : ACode := .cond (.t 4) (.seq (.region [W1 2 (.mv (.c (.lit (.slice none 0 0))))]) (.ret)) (.skip)

def k103_1 : ACode := .seq (.region [W1 5 (.bsl 13 0 [.int .i64 0, .int .i64 0, .int .i64 0, .int .i64 0, .int .i64 0, .int .i64 0, .int .i64 0, .bool false, .int .u64 0, .int .u64 0, .int .u64 0, .int .u64 0, .int .u64 0] []), W1 6 (.mv (.t 0)), W1 7 (.app 13 104 (.t 5) (.t 6)), W1 2 (.mv (.t 7))]) (.ret)

def k103_2 : ACode := .seq (.seq (.region [W1 3 (.mv (.t 0)), W1 4 (.isNil false 1 (.t 3))]) k103_0) k103_1

def c103 : ACode := .seq (.region [W1 2 (.mv (.c (.lit (.slice none 0 0))))]) k103_2
theorem ok103 : fnOk Tryz.prog 103 c103 8 [.t 2] = true := by kernel_rfl

def k120_0 : ACode := .cond (.t 10) (.seq (.region [W1 4 (.mv (.c (.bool false)))]) (.ret)) (.skip)

def k120_1 : ACode := .cond (.t 24) (.seq (.region [W1 4 (.mv (.c (.bool false)))]) (.ret)) (.skip)

def k120_2 : ACode := .seq (.drawn [(0, W1 16 (.mv (.t 0))), (1, W1 17 (.mv (.t 5))), (2, W1 18 (.ixs 5 (.t 16) (.t 17))), (3, W1 19 (.ld (some 5) (.t 18))), (4, W1 20 (.mv (.t 1))), (5, W1 21 (.mv (.t 5))), (6, W1 22 (.ixs 5 (.t 20) (.t 21))), (7, W1 23 (.ld (some 5) (.t 22))), (8, W1 24 (.eqs true [0, 0, 0, 0, 0] (.t 19) (.t 23)))] [[], [], [0, 1], [2], [], [], [4, 5], [6], [3, 7]] 0) k120_1

def k120_3 : ACode := .seq (.block 1 ( .seq (.region [W1 15 (.mv (.t 13)), W1 5 (.mv (.t 15))]) k120_2)) (.region [W1 25 (.bin .add (.t 13) (.c (.int .i64 1))), W1 13 (.mv (.t 25))])

def b120_4 : ACode := .seq (.region [W1 14 (.bin .lss (.t 13) (.t 12))]) (.seq (.cond (.t 14) (.skip) (.exit 0)) k120_3)

def k120_5 : ACode := .seq (.seq (.region [W1 11 (.mv (.t 0)), W1 12 (.len false (.t 11)), W1 13 (.mv (.c (.int .i64 0)))]) (.block 0 ( .loop b120_4))) (.seq (.region [W1 4 (.mv (.c (.bool true)))]) (.ret))

def k120_6 : ACode := .seq (.seq (.region [W1 6 (.mv (.t 0)), W1 7 (.len false (.t 6)), W1 8 (.mv (.t 1)), W1 9 (.len false (.t 8)), W1 10 (.bin .neq (.t 7) (.t 9))]) k120_0) k120_5

def c120 : ACode := .seq (.region [W1 4 (.mv (.c (.bool false)))]) k120_6
theorem ok120 : fnOk Tryz.prog 120 c120 26 [.t 4] = true := by kernel_rfl

def k121_0 : ACode := .cond (.t 10) (.seq (.region [W1 4 (.mv (.c (.bool false)))]) (.ret)) (.skip)

def k121_1 : ACode := .cond (.t 24) (.seq (.region [W1 4 (.mv (.c (.bool false)))]) (.ret)) (.skip)

def k121_2 : ACode := .seq (.drawn [(0, W1 16 (.mv (.t 0))), (1, W1 17 (.mv (.t 5))), (2, W1 18 (.ixs 13 (.t 16) (.t 17))), (3, W1 19 (.ld (some 13) (.t 18))), (4, W1 20 (.mv (.t 1))), (5, W1 21 (.mv (.t 5))), (6, W1 22 (.ixs 13 (.t 20) (.t 21))), (7, W1 23 (.ld (some 13) (.t 22))), (8, W1 24 (.eqs true [0, 0, 0, 0, 0, 0, 0, 1, 0, 0, 0, 0, 0] (.t 19) (.t 23)))] [[], [], [0, 1], [2], [], [], [4, 5], [6], [3, 7]] 0) k121_1

def k121_3 : ACode := .seq (.block 1 ( .seq (.region [W1 15 (.mv (.t 13)), W1 5 (.mv (.t 15))]) k121_2)) (.region [W1 25 (.bin .add (.t 13) (.c (.int .i64 1))), W1 13 (.mv (.t 25))])

def b121_4 : ACode := .seq (.region [W1 14 (.bin .lss (.t 13) (.t 12))]) (.seq (.cond (.t 14) (.skip) (.exit 0)) k121_3)

def k121_5 : ACode := .seq (.seq (.region [W1 11 (.mv (.t 0)), W1 12 (.len false (.t 11)), W1 13 (.mv (.c (.int .i64 0)))]) (.block 0 ( .loop b121_4))) (.seq (.region [W1 4 (.mv (.c (.bool true)))]) (.ret))

def k121_6 : ACode := .seq (.seq (.region [W1 6 (.mv (.t 0)), W1 7 (.len false (.t 6)), W1 8 (.mv (.t 1)), W1 9 (.len false (.t 8)), W1 10 (.bin .neq (.t 7) (.t 9))]) k121_0) k121_5

def c121 : ACode := .seq (.region [W1 4 (.mv (.c (.bool false)))]) k121_6
theorem ok121 : fnOk Tryz.prog 121 c121 26 [.t 4] = true := by kernel_rfl

def k151_0 : ACode := .seq (.region [W1 5 (.mv (.t 0)), W1 6 (.mv (.t 1)), W1 7 (.call 224 [(.t 5), (.t 6)]), W1 8 (.bin .geq (.t 7) (.c (.int .i64 0))), W1 4 (.mv (.t 8))]) (.ret)

def c151 : ACode := .seq (.region [W1 4 (.mv (.c (.bool false)))]) k151_0
theorem ok151 : fnOk Tryz.prog 151 c151 9 [.t 4] = true := by kernel_rfl

def k153_0 : ACode := .seq (.region [W1 5 (.mv (.t 0)), W1 6 (.mv (.t 1)), W1 7 (.call 227 [(.t 5), (.t 6)]), W1 8 (.bin .geq (.t 7) (.c (.int .i64 0))), W1 4 (.mv (.t 8))]) (.ret)

def c153 : ACode := .seq (.region [W1 4 (.mv (.c (.bool false)))]) k153_0
theorem ok153 : fnOk Tryz.prog 153 c153 9 [.t 4] = true := by kernel_rfl

def k168_0 : ACode := .region [W1 5 (.mv (.t 0)), W1 6 (.mv (.t 2)), W1 7 (.mv (.t 2)), W1 8 (.cvt .u64 (.t 7)), W1 9 (.call 233 [(.t 8)]), W1 10 (.call 232 [(.t 5), (.c (.int .i64 0)), (.t 6), (.t 9)])]

def c168 : ACode := .seq (.region [W1 3 (.mv (.t 0)), W1 4 (.len false (.t 3)), W1 2 (.mv (.t 4))]) k168_0
theorem ok168 : fnOk Tryz.prog 168 c168 11 [] = true := by kernel_rfl

def k223_0 : ACode := .seq (.region [W1 7 (.mv (.t 0)), W1 8 (.mv (.t 1)), W1 9 (.call 253 [(.t 7), (.t 8)]), W1 10 (.ext (.t 9) 0), W1 11 (.ext (.t 9) 1), W1 12 (.ext (.t 9) 2), W1 4 (.mv (.t 10)), W1 5 (.mv (.t 11)), W1 6 (.mv (.t 12))]) (.ret)

def c223 : ACode := .seq (.region [W1 4 (.mv (.c (.str []))), W1 5 (.mv (.c (.str []))), W1 6 (.mv (.c (.bool false)))]) k223_0
theorem ok223 : fnOk Tryz.prog 223 c223 13 [.t 4, .t 5, .t 6] = true := by kernel_rfl

def k224_0 : ACode := .seq (.region [W1 5 (.mv (.t 0)), W1 6 (.mv (.t 1)), W1 7 (.call 254 [(.t 5), (.t 6)]), W1 4 (.mv (.t 7))]) (.ret)

def c224 : ACode := .seq (.region [W1 4 (.mv (.c (.int .i64 0)))]) k224_0
theorem ok224 : fnOk Tryz.prog 224 c224 8 [.t 4] = true := by kernel_rfl

def k226_0 : ACode := .seq (.region [W1 5 (.mv (.t 0)), W1 6 (.mv (.t 1)), W1 7 (.call 255 [(.t 5), (.t 6)]), W1 8 (.bin .geq (.t 7) (.c (.int .i64 0))), W1 4 (.mv (.t 8))]) (.ret)

def c226 : ACode := .seq (.region [W1 4 (.mv (.c (.bool false)))]) k226_0
theorem ok226 : fnOk Tryz.prog 226 c226 9 [.t 4] = true := by kernel_rfl

def k227_0 : ACode := .cond (.t 12) (.seq (.region [W1 4 (.mv (.c (.int .i64 (-1))))]) (.ret)) (.skip)

def k227_1 : ACode := .seq (.region [W1 21 (.mv (.t 0)), W1 22 (.mv (.t 5)), W1 23 (.call 256 [(.t 21), (.t 22)]), W1 4 (.mv (.t 23))]) (.ret)

def k227_2 : ACode := .seq (.seq (.region [W1 19 (.mv (.t 5)), W1 20 (.bin .geq (.t 19) (.c (.int .i32 128)))]) (.cond (.t 20) (.region [W1 5 (.mv (.c (.int .i32 65533)))]) (.skip))) k227_1

def k227_3 : ACode := .seq (.region [W1 16 (.mv (.t 1)), W1 17 (.ixstr (.t 16) (.c (.int .i64 0))), W1 18 (.cvt .i32 (.t 17)), W1 5 (.mv (.t 18))]) k227_2

def k227_4 : ACode := .cond (.t 42) (.seq (.region [W1 43 (.mv (.t 8)), W1 4 (.mv (.t 43))]) (.ret)) (.skip)

def k227_5 : ACode := .seq (.block 1 ( .seq (.region [W1 39 (.mv (.t 0)), W1 40 (.mv (.t 8)), W1 41 (.ixstr (.t 39) (.t 40)), W1 42 (.call 259 [(.t 6), (.t 41)])]) k227_4)) (.region [W1 37 (.mv (.t 8)), W1 38 (.bin .add (.t 37) (.c (.int .i64 1))), W1 8 (.mv (.t 38))])

def b227_6 : ACode := .seq (.seq (.region [W1 33 (.mv (.t 8)), W1 34 (.mv (.t 0)), W1 35 (.len true (.t 34)), W1 36 (.bin .lss (.t 33) (.t 35))]) (.cond (.t 36) (.skip) (.exit 0))) k227_5

def k227_7 : ACode := .seq (.seq (.region [W1 8 (.mv (.c (.int .i64 0)))]) (.block 0 ( .loop b227_6))) (.seq (.region [W1 4 (.mv (.c (.int .i64 (-1))))]) (.ret))

def k227_8 : ACode := .seq (.region [W1 32 (.mv (.t 7))]) (.cond (.t 32) k227_7 (.skip))

def k227_9 : ACode := .seq (.region [W1 28 (.mv (.t 1)), W1 29 (.call 258 [(.t 28)]), W1 27 (.mv (.t 29)), W1 30 (.ext (.t 27) 0), W1 31 (.ext (.t 27) 1),
 W1 6 (.new [.bool false, .bool false, .bool false, .bool false, .bool false, .bool false, .bool false, .bool false, .bool false, .bool false, .bool false, .bool false, .bool false, .bool false, .bool false, .bool false, .bool false, .bool false, .bool false, .bool false, .bool false, .bool false, .bool false, .bool false, .bool false, .bool false, .bool false, .bool false, .bool false, .bool false, .bool false, .bool false, .bool false, .bool false, .bool false, .bool false, .bool false, .bool false, .bool false, .bool false, .bool false, .bool false, .bool false, .bool false, .bool false, .bool false, .bool false, .bool false, .bool false, .bool false, .bool false, .bool false, .bool false, .bool false, .bool false, .bool false, .bool false, .bool false, .bool false, .bool false, .bool false, .bool false, .bool false, .bool false, .bool false, .bool false, .bool false, .bool false, .bool false, .bool false, .bool false, .bool false, .bool false, .bool false, .bool false, .bool false, .bool false, .bool false, .bool false, .bool false, .bool false, .bool false, .bool false, .bool false, .bool false, .bool false, .bool false, .bool false, .bool false, .bool false, .bool false, .bool false, .bool false, .bool false, .bool false, .bool false, .bool false, .bool false, .bool false, .bool false, .bool false, .bool false, .bool false, .bool false, .bool false, .bool false, .bool false, .bool false, .bool false, .bool false, .bool false, .bool false, .bool false, .bool false, .bool false, .bool false, .bool false, .bool false, .bool false, .bool false, .bool false, .bool false, .bool false, .bool false, .bool false, .bool false, .bool false, .bool false, .bool false, .bool false, .bool false, .bool false, .bool false, .bool false, .bool false, .bool false, .bool false, .bool false, .bool false, .bool false, .bool false, .bool false, .bool false, .bool false, .bool false, .bool false, .bool false, .bool false, .bool false, .bool false, .bool false, .bool false, .bool false, .bool false, .bool false, .bool false, .bool false, .bool false, .bool false, .bool false, .bool false, .bool false, .bool false, .bool false, .bool false, .bool false, .bool false, .bool false, .bool false, .bool false, .bool false, .bool false, .bool false, .bool false, .bool false, .bool false, .bool false, .bool false, .bool false, .bool false, .bool false, .bool false, .bool false, .bool false, .bool false, .bool false, .bool false, .bool false, .bool false, .bool false, .bool false, .bool false, .bool false, .bool false, .bool false, .bool false, .bool false, .bool false, .bool false, .bool false, .bool false, .bool false, .bool false, .bool false, .bool false, .bool false, .bool false, .bool false, .bool false, .bool false, .bool false, .bool false, .bool false, .bool false, .bool false, .bool false, .bool false, .bool false, .bool false, .bool false, .bool false, .bool false, .bool false, .bool false, .bool false, .bool false, .bool false, .bool false, .bool false, .bool false, .bool false, .bool false, .bool false, .bool false, .bool false, .bool false, .bool false, .bool false, .bool false, .bool false, .bool false, .bool false, .bool false, .bool false, .bool false, .bool false, .bool false, .bool false, .bool false, .bool false, .bool false, .bool false, .bool false, .bool false, .bool false, .bool false]),
 ⟨none, .st 256 (.t 6) (.t 30), none⟩, W1 7 (.mv (.t 31))]) k227_8

def k227_10 : ACode := .cond (.t 53) (.seq (.region [W1 54 (.mv (.t 9)), W1 4 (.mv (.t 54))]) (.ret)) (.skip)

def k227_11 : ACode := .seq (.region [W1 50 (.mv (.t 1)), W1 51 (.mv (.t 10)), W1 52 (.call 256 [(.t 50), (.t 51)]), W1 53 (.bin .geq (.t 52) (.c (.int .i64 0)))]) k227_10

def k227_12 : ACode := .block 3 ( .seq (.region [W1 48 (.ext (.t 46) 1), W1 49 (.ext (.t 46) 2), W1 9 (.mv (.t 48)), W1 10 (.mv (.t 49))]) k227_11)

def b227_13 : ACode := .seq (.region [W1 46 (.nxt (.t 45)), W1 47 (.ext (.t 46) 0)]) (.seq (.cond (.t 47) (.skip) (.exit 2)) k227_12)

def k227_14 : ACode := .seq (.seq (.region [W1 44 (.mv (.t 0)), W1 45 (.rng (.t 44))]) (.block 2 ( .loop b227_13))) (.seq (.region [W1 4 (.mv (.c (.int .i64 (-1))))]) (.ret))

def k227_15 : ACode := .seq (.seq (.region [W1 24 (.mv (.t 0)), W1 25 (.len true (.t 24)), W1 26 (.call 257 [(.t 25)])]) (.cond (.t 26) k227_9 (.skip))) k227_14

def k227_16 : ACode := .seq (.seq (.region [W1 13 (.mv (.t 1)), W1 14 (.len true (.t 13)), W1 15 (.bin .eql (.t 14) (.c (.int .i64 1)))]) (.cond (.t 15) k227_3 (.skip))) k227_15

def k227_17 : ACode := .seq (.seq (.region [W1 11 (.mv (.t 1)), W1 12 (.sbin .eql (.t 11) (.c (.str [])))]) k227_0) k227_16

def c227 : ACode := .seq (.region [W1 4 (.mv (.c (.int .i64 0)))]) k227_17
theorem ok227 : fnOk Tryz.prog 227 c227 55 [.t 4] = true := by kernel_rfl

def k231_0 : ACode := .cond (.t 4) (.seq (.region [W1 2 (.mv (.c (.lit (.slice none 0 0))))]) (.ret)) (.skip)

def k231_1 : ACode := .seq (.region [W1 5 (.bsl 1 0 [.int .i64 0] []), W1 6 (.mv (.t 0)), W1 7 (.app 1 8 (.t 5) (.t 6)), W1 2 (.mv (.t 7))]) (.ret)

def k231_2 : ACode := .seq (.seq (.region [W1 3 (.mv (.t 0)), W1 4 (.isNil false 1 (.t 3))]) k231_0) k231_1

def c231 : ACode := .seq (.region [W1 2 (.mv (.c (.lit (.slice none 0 0))))]) k231_2
theorem ok231 : fnOk Tryz.prog 231 c231 8 [.t 2] = true := by kernel_rfl

def k232_0 : ACode := .seq (.region [W1 24 (.mv (.t 0)), W1 25 (.mv (.t 1)), W1 26 (.mv (.t 2)), W1 27 (.call 261 [(.t 24), (.t 25), (.t 26)])]) (.ret)

def k232_1 : ACode := .seq (.region [W1 30 (.mv (.t 0)), W1 31 (.mv (.t 1)), W1 32 (.mv (.t 2)), W1 33 (.call 262 [(.t 30), (.t 31), (.t 32)])]) (.ret)

def k232_2 : ACode := .seq (.region [W1 36 (.mv (.t 0)), W1 37 (.mv (.t 1)), W1 38 (.mv (.t 2)), W1 39 (.call 263 [(.t 36), (.t 37), (.t 38)])]) (.region [W1 40 (.mv (.t 3)), W1 41 (.bin .sub (.t 40) (.c (.int .i64 1))), W1 3 (.mv (.t 41))])

def k232_3 : ACode := .seq (.region [W1 55 (.mv (.t 2)), W1 56 (.bin .sub (.t 55) (.c (.int .i64 1))), W1 57 (.mv (.t 11)), W1 58 (.mv (.t 1)), W1 59 (.bin .sub (.t 57) (.t 58)), W1 60 (.bin .sub (.t 56) (.t 59)), W1 11 (.mv (.t 60))]) (.region [W1 12 (.mv (.c (.int .i64 1)))])

def k232_4 : ACode := .seq (.region [W1 51 (.mv (.t 0)), W1 52 (.mv (.t 1)), W1 53 (.mv (.t 2)), W1 54 (.call 265 [(.t 51), (.t 52), (.t 53)])]) k232_3

def k232_5 : ACode := .seq (.region [W1 69 (.mv (.t 0)), W1 70 (.mv (.t 1)), W1 71 (.mv (.t 2)), W1 72 (.call 266 [(.t 69), (.t 70), (.t 71)])]) (.cond (.t 72) (.ret) (.skip))

def k232_6 : ACode := .seq (.region [W1 88 (.mv (.t 0)), W1 89 (.mv (.t 1)), W1 90 (.mv (.t 2)), W1 91 (.mv (.t 11)), W1 92 (.call 268 [(.t 88), (.t 89), (.t 90), (.t 91)]), W1 13 (.mv (.t 92))]) (.seq (.region [W1 93 (.mv (.t 13)), W1 1 (.mv (.t 93))]) (.exit 1))

def k232_7 : ACode := .seq (.region [W1 117 (.mv (.t 0)), W1 118 (.mv (.t 1)), W1 119 (.mv (.t 14)), W1 120 (.mv (.t 3)), W1 121 (.call 232 [(.t 117), (.t 118), (.t 119), (.t 120)])]) (.region [W1 122 (.mv (.t 14)), W1 123 (.bin .add (.t 122) (.c (.int .i64 1))), W1 1 (.mv (.t 123))])

def k232_8 : ACode := .seq (.region [W1 114 (.mv (.t 16)), W1 115 (.mv (.t 18)), W1 116 (.bin .geq (.t 114) (.t 115)), W1 8 (.mv (.t 116))]) k232_7

def k232_9 : ACode := .seq (.region [W1 127 (.mv (.t 0)), W1 128 (.mv (.t 14)), W1 129 (.bin .add (.t 128) (.c (.int .i64 1))), W1 130 (.mv (.t 2)), W1 131 (.mv (.t 3)), W1 132 (.call 232 [(.t 127), (.t 129), (.t 130), (.t 131)])]) (.region [W1 133 (.mv (.t 14)), W1 2 (.mv (.t 133))])

def k232_10 : ACode := .seq (.region [W1 124 (.mv (.t 17)), W1 125 (.mv (.t 18)), W1 126 (.bin .geq (.t 124) (.t 125)), W1 8 (.mv (.t 126))]) k232_9

def k232_11 : ACode := .seq (.region [W1 111 (.mv (.t 16)), W1 112 (.mv (.t 17)), W1 113 (.bin .lss (.t 111) (.t 112))]) (.cond (.t 113) k232_8 k232_10)

def k232_12 : ACode := .seq (.region [W1 109 (.mv (.t 10)), W1 110 (.bin .quo (.t 109) (.c (.int .i64 8))), W1 18 (.mv (.t 110))]) k232_11

def k232_13 : ACode := .seq (.region [W1 103 (.mv (.t 14)), W1 104 (.mv (.t 1)), W1 105 (.bin .sub (.t 103) (.t 104)), W1 106 (.mv (.t 2)), W1 107 (.mv (.t 14)), W1 108 (.bin .sub (.t 106) (.t 107)), W1 16 (.mv (.t 105)), W1 17 (.mv (.t 108))]) k232_12

def k232_14 : ACode := .seq (.region [W1 95 (.mv (.t 0)), W1 96 (.mv (.t 1)), W1 97 (.mv (.t 2)), W1 98 (.mv (.t 11)), W1 99 (.call 269 [(.t 95), (.t 96), (.t 97), (.t 98)]), W1 94 (.mv (.t 99)), W1 100 (.ext (.t 94) 0), W1 101 (.ext (.t 94) 1), W1 14 (.mv (.t 100)), W1 15 (.mv (.t 101))]) (.seq (.region [W1 102 (.mv (.t 15)), W1 9 (.mv (.t 102))]) k232_13)

def k232_15 : ACode := .seq (.seq (.drawn [(0, W1 73 (.mv (.t 1))), (1, W1 74 (.bin .gtr (.t 73) (.c (.int .i64 0)))), (2, W1 75 (.mv (.t 74))), (3, ⟨(some 76), .mv (.t 0), (some (75, true))⟩), (4, ⟨(some 77), .mv (.t 1), (some (75, true))⟩), (5, ⟨(some 78), .bin .sub (.t 77) (.c (.int .i64 1)), (some (75, true))⟩), (6, ⟨(some 79), .ixs 1 (.t 76) (.t 78), (some (75, true))⟩), (7, ⟨(some 80), .ld none (.t 79), (some (75, true))⟩), (8, ⟨(some 81), .mv (.t 0), (some (75, true))⟩), (9, ⟨(some 82), .mv (.t 11), (some (75, true))⟩), (10, ⟨(some 83), .ixs 1 (.t 81) (.t 82), (some (75, true))⟩),
 (11, ⟨(some 84), .ld none (.t 83), (some (75, true))⟩), (12, ⟨(some 85), .call 267 [(.t 80), (.t 84)], (some (75, true))⟩), (13, ⟨(some 86), .un .not (.t 85), (some (75, true))⟩), (14, W1 87 (.pick (.t 75) (.t 86) (.c (.bool false))))] [[], [0], [1], [2], [2], [4, 2], [3, 5, 2], [6, 2], [2], [2], [8, 9, 2], [10, 2], [7, 11, 2, 2], [12, 2], [2, 13]] 0) (.cond (.t 87) k232_6 (.skip))) k232_14

def k232_16 : ACode := .seq (.seq (.region [W1 61 (.mv (.t 8)), W1 62 (.mv (.t 61)), ⟨(some 63), .mv (.t 9), (some (62, true))⟩, W1 64 (.pick (.t 62) (.t 63) (.c (.bool false))), W1 65 (.mv (.t 64)), ⟨(some 66), .mv (.t 12), (some (65, true))⟩, ⟨(some 67), .bin .eql (.t 66) (.c (.int .i64 1)), (some (65, true))⟩, W1 68 (.pick (.t 65) (.t 67) (.c (.bool false)))]) (.cond (.t 68) k232_5 (.skip))) k232_15

def k232_17 : ACode := .seq (.seq (.region [W1 49 (.mv (.t 12)), W1 50 (.bin .eql (.t 49) (.c (.int .i64 2)))]) (.cond (.t 50) k232_4 (.skip))) k232_16

def k232_18 : ACode := .seq (.region [W1 43 (.mv (.t 0)), W1 44 (.mv (.t 1)), W1 45 (.mv (.t 2)), W1 46 (.call 264 [(.t 43), (.t 44), (.t 45)]), W1 42 (.mv (.t 46)), W1 47 (.ext (.t 42) 0), W1 48 (.ext (.t 42) 1), W1 11 (.mv (.t 47)), W1 12 (.mv (.t 48))]) k232_17

def k232_19 : ACode := .seq (.seq (.region [W1 34 (.mv (.t 8)), W1 35 (.un .not (.t 34))]) (.cond (.t 35) k232_2 (.skip))) k232_18

def k232_20 : ACode := .seq (.seq (.region [W1 28 (.mv (.t 3)), W1 29 (.bin .eql (.t 28) (.c (.int .i64 0)))]) (.cond (.t 29) k232_1 (.skip))) k232_19

def k232_21 : ACode := .seq (.seq (.region [W1 22 (.mv (.t 10)), W1 23 (.bin .leq (.t 22) (.c (.int .i64 12)))]) (.cond (.t 23) k232_0 (.skip))) k232_20

def b232_22 : ACode := .block 1 ( .seq (.region [W1 19 (.mv (.t 2)), W1 20 (.mv (.t 1)), W1 21 (.bin .sub (.t 19) (.t 20)), W1 10 (.mv (.t 21))]) k232_21)

def c232 : ACode := .seq (.region [W1 8 (.mv (.c (.bool true)))]) (.seq (.region [W1 9 (.mv (.c (.bool true)))]) (.block 0 ( .loop b232_22)))
theorem ok232 : fnOk Tryz.prog 232 c232 134 [] = true := by kernel_rfl

def k233_0 : ACode := .seq (.region [W1 3 (.mv (.t 0)), W1 4 (.cvt .u32 (.t 3)), W1 5 (.call 270 [(.t 4)]), W1 2 (.mv (.t 5))]) (.ret)

def k233_1 : ACode := .seq (.region [W1 6 (.mv (.t 0)), W1 7 (.call 271 [(.t 6)]), W1 2 (.mv (.t 7))]) (.ret)

def c233 : ACode := .seq (.region [W1 2 (.mv (.c (.int .i64 0)))]) (.seq (.cond (.c (.bool false)) k233_0 (.skip)) k233_1)
theorem ok233 : fnOk Tryz.prog 233 c233 8 [.t 2] = true := by kernel_rfl

def k246_0 : ACode := .cond (.t 16) (.seq (.region [W1 17 (.mv (.t 5)), W1 4 (.mv (.t 17))]) (.ret)) (.skip)

def k246_1 : ACode := .seq (.region [W1 11 (.mv (.t 1)), W1 12 (.mv (.t 0)), W1 13 (.mv (.t 5)), W1 14 (.ixs 13 (.t 12) (.t 13)), W1 15 (.ld (some 13) (.t 14)), W1 16 (.callv (.t 11) [(.t 15)])]) k246_0

def k246_2 : ACode := .seq (.block 1 ( .seq (.region [W1 10 (.mv (.t 8)), W1 5 (.mv (.t 10))]) k246_1)) (.region [W1 18 (.bin .add (.t 8) (.c (.int .i64 1))), W1 8 (.mv (.t 18))])

def b246_3 : ACode := .seq (.region [W1 9 (.bin .lss (.t 8) (.t 7))]) (.seq (.cond (.t 9) (.skip) (.exit 0)) k246_2)

def k246_4 : ACode := .seq (.seq (.region [W1 6 (.mv (.t 0)), W1 7 (.len false (.t 6)), W1 8 (.mv (.c (.int .i64 0)))]) (.block 0 ( .loop b246_3))) (.seq (.region [W1 4 (.mv (.c (.int .i64 (-1))))]) (.ret))

def c246 : ACode := .seq (.region [W1 4 (.mv (.c (.int .i64 0)))]) k246_4
theorem ok246 : fnOk Tryz.prog 246 c246 19 [.t 4] = true := by kernel_rfl

def k251_0 : ACode := .seq (.region [W1 5 (.mv (.t 0)), W1 6 (.mv (.t 1)), W1 7 (.call 277 [(.t 5), (.t 6)]), W1 8 (.bin .geq (.t 7) (.c (.int .i64 0))), W1 4 (.mv (.t 8))]) (.ret)

def c251 : ACode := .seq (.region [W1 4 (.mv (.c (.bool false)))]) k251_0
theorem ok251 : fnOk Tryz.prog 251 c251 9 [.t 4] = true := by kernel_rfl

def k253_0 : ACode := .seq (.drawn [(0, W1 13 (.mv (.t 0))), (1, W1 14 (.mv (.t 7))), (2, W1 15 (.sstr (.t 13) none (some (.t 14)))), (3, W1 16 (.mv (.t 0))), (4, W1 17 (.mv (.t 7))), (5, W1 18 (.mv (.t 1))), (6, W1 19 (.len true (.t 18))), (7, W1 20 (.bin .add (.t 17) (.t 19))), (8, W1 21 (.sstr (.t 16) (some (.t 20)) none)), (9, W1 4 (.mv (.t 15))), (10, W1 5 (.mv (.t 21))), (11, W1 6 (.mv (.c (.bool true))))] [[], [], [0, 1], [], [], [], [5], [4, 6], [3, 7], [2, 0, 1, 2], [8, 9, 0, 1, 2, 3, 4, 5, 6, 7, 8, 9], [10, 0, 1, 2, 3, 4, 5, 6, 7, 8, 9, 10]] 0) (.ret)

def k253_1 : ACode := .seq (.region [W1 11 (.mv (.t 7)), W1 12 (.bin .geq (.t 11) (.c (.int .i64 0)))]) (.cond (.t 12) k253_0 (.skip))

def k253_2 : ACode := .seq (.region [W1 22 (.mv (.t 0)), W1 4 (.mv (.t 22)), W1 5 (.mv (.c (.str []))), W1 6 (.mv (.c (.bool false)))]) (.ret)

def k253_3 : ACode := .seq (.seq (.region [W1 8 (.mv (.t 0)), W1 9 (.mv (.t 1)), W1 10 (.call 254 [(.t 8), (.t 9)]), W1 7 (.mv (.t 10))]) k253_1) k253_2

def c253 : ACode := .seq (.region [W1 4 (.mv (.c (.str []))), W1 5 (.mv (.c (.str []))), W1 6 (.mv (.c (.bool false)))]) k253_3
theorem ok253 : fnOk Tryz.prog 253 c253 23 [.t 4, .t 5, .t 6] = true := by kernel_rfl

def k254_0 : ACode := .seq (.region [W1 27 (.mv (.t 0)), W1 28 (.mv (.t 1)), W1 29 (.ixstr (.t 28) (.c (.int .i64 0))), W1 30 (.call 278 [(.t 27), (.t 29)]), W1 4 (.mv (.t 30))]) (.ret)

def k254_1 : ACode := .seq (.wild) (.cond (.t 36) (.seq (.wild) (.ret)) (.skip))

def k254_2 : ACode := .cond (.t 31) (.seq (.region [W1 4 (.mv (.c (.int .i64 (-1))))]) (.ret)) k254_1

def k254_3 : ACode := .seq (.region [W1 32 (.mv (.t 5)), W1 33 (.mv (.t 0)), W1 34 (.len true (.t 33)), W1 35 (.bin .geq (.t 32) (.t 34)), W1 31 (.mv (.t 35))]) k254_2

def k254_4 : ACode := .seq (.region [W1 25 (.mv (.t 5)), W1 26 (.bin .eql (.t 25) (.c (.int .i64 1))), W1 24 (.mv (.t 26))]) (.cond (.t 24) k254_0 k254_3)

def k254_5 : ACode := .cond (.t 16) (.seq (.region [W1 4 (.mv (.c (.int .i64 0)))]) (.ret)) k254_4

def k254_6 : ACode := .cond (.t 73) (.seq (.region [W1 4 (.mv (.c (.int .i64 (-1))))]) (.ret)) (.skip)

def k254_7 : ACode := .region [W1 74 (.mv (.t 8)), W1 75 (.mv (.t 11)), W1 76 (.bin .add (.t 75) (.c (.int .i64 1))), W1 77 (.bin .add (.t 74) (.t 76)), W1 8 (.mv (.t 77))]

def k254_8 : ACode := .seq (.seq (.region [W1 72 (.mv (.t 11)), W1 73 (.bin .lss (.t 72) (.c (.int .i64 0)))]) k254_6) k254_7

def k254_9 : ACode := .seq (.region [W1 65 (.mv (.t 0)), W1 66 (.mv (.t 8)), W1 67 (.bin .add (.t 66) (.c (.int .i64 1))), W1 68 (.mv (.t 9)), W1 69 (.sstr (.t 65) (some (.t 67)) (some (.t 68))), W1 70 (.mv (.t 6)), W1 71 (.call 278 [(.t 69), (.t 70)]), W1 11 (.mv (.t 71))]) k254_8

def k254_10 : ACode := .cond (.t 93) (.seq (.region [W1 94 (.mv (.t 8)), W1 4 (.mv (.t 94))]) (.ret)) (.skip)

def k254_11 : ACode := .seq (.region [W1 115 (.mv (.t 12)), W1 116 (.mv (.t 8)), W1 117 (.bin .add (.t 115) (.t 116)), W1 4 (.mv (.t 117))]) (.ret)

def k254_12 : ACode := .seq (.seq (.region [W1 113 (.mv (.t 12)), W1 114 (.bin .geq (.t 113) (.c (.int .i64 0)))]) (.cond (.t 114) k254_11 (.skip))) (.seq (.region [W1 4 (.mv (.c (.int .i64 (-1))))]) (.ret))

def k254_13 : ACode := .cond (.t 139) (.seq (.region [W1 4 (.mv (.c (.int .i64 (-1))))]) (.ret)) (.skip)

def k254_14 : ACode := .seq (.region [W1 140 (.mv (.t 8)), W1 141 (.mv (.t 13)), W1 142 (.bin .add (.t 140) (.t 141)), W1 4 (.mv (.t 142))]) (.ret)

def k254_15 : ACode := .seq (.seq (.region [W1 138 (.mv (.t 13)), W1 139 (.bin .lss (.t 138) (.c (.int .i64 0)))]) k254_13) k254_14

def k254_16 : ACode := .seq (.region [W1 133 (.mv (.t 0)), W1 134 (.mv (.t 8)), W1 135 (.sstr (.t 133) (some (.t 134)) none), W1 136 (.mv (.t 1)), W1 137 (.call 281 [(.t 135), (.t 136)]), W1 13 (.mv (.t 137))]) k254_15

def k254_17 : ACode := .cond (.t 107) (.seq (.wild) k254_12) (.seq (.wild) (.cond (.t 132) k254_16 (.skip)))

def k254_18 : ACode := .seq (.region [W1 97 (.mv (.t 10)), W1 98 (.bin .add (.t 97) (.c (.int .i64 1))), W1 10 (.mv (.t 98))]) (.seq (.wild) k254_17)

def k254_19 : ACode := .seq (.region [W1 95 (.mv (.t 8)), W1 96 (.bin .add (.t 95) (.c (.int .i64 1))), W1 8 (.mv (.t 96))]) k254_18

def k254_20 : ACode := .seq (.seq (.region [W1 78 (.mv (.t 0)), W1 79 (.mv (.t 8)), W1 80 (.bin .add (.t 79) (.c (.int .i64 1))), W1 81 (.ixstr (.t 78) (.t 80)), W1 82 (.mv (.t 7)), W1 83 (.bin .eql (.t 81) (.t 82)), W1 84 (.mv (.t 83)), ⟨(some 85), .mv (.t 0), (some (84, true))⟩, ⟨(some 86), .mv (.t 8), (some (84, true))⟩, ⟨(some 87), .mv (.t 8), (some (84, true))⟩, ⟨(some 88), .mv (.t 5), (some (84, true))⟩, ⟨(some 89), .bin .add (.t 87) (.t 88), (some (84, true))⟩, ⟨(some 90), .sstr (.t 85) (some (.t 86)) (some (.t 89)), (some (84, true))⟩, ⟨(some 91), .mv (.t 1), (some (84, true))⟩,
 ⟨(some 92), .sbin .eql (.t 90) (.t 91), (some (84, true))⟩, W1 93 (.pick (.t 84) (.t 92) (.c (.bool false)))]) k254_10) k254_19

def k254_21 : ACode := .block 2 ( .seq (.seq (.region [W1 60 (.mv (.t 0)), W1 61 (.mv (.t 8)), W1 62 (.ixstr (.t 60) (.t 61)), W1 63 (.mv (.t 6)), W1 64 (.bin .neq (.t 62) (.t 63))]) (.cond (.t 64) k254_9 (.skip))) k254_20)

def b254_22 : ACode := .seq (.seq (.region [W1 57 (.mv (.t 8)), W1 58 (.mv (.t 9)), W1 59 (.bin .lss (.t 57) (.t 58))]) (.cond (.t 59) (.skip) (.exit 1))) k254_21

def k254_23 : ACode := .seq (.block 1 ( .loop b254_22)) (.seq (.region [W1 4 (.mv (.c (.int .i64 (-1))))]) (.ret))

def k254_24 : ACode := .seq (.region [W1 52 (.mv (.t 0)), W1 53 (.len true (.t 52)), W1 54 (.mv (.t 5)), W1 55 (.bin .sub (.t 53) (.t 54)), W1 56 (.bin .add (.t 55) (.c (.int .i64 1))), W1 9 (.mv (.t 56))]) (.seq (.region [W1 10 (.mv (.c (.int .i64 0)))]) k254_23)

def k254_25 : ACode := .seq (.region [W1 50 (.mv (.t 1)), W1 51 (.ixstr (.t 50) (.c (.int .i64 1))), W1 7 (.mv (.t 51))]) (.seq (.region [W1 8 (.mv (.c (.int .i64 0)))]) k254_24)

def k254_26 : ACode := .seq (.region [W1 48 (.mv (.t 1)), W1 49 (.ixstr (.t 48) (.c (.int .i64 0))), W1 6 (.mv (.t 49))]) k254_25

def k254_27 : ACode := .seq (.block 0 ( .seq (.region [W1 17 (.mv (.t 5)), W1 18 (.bin .eql (.t 17) (.c (.int .i64 0))), W1 19 (.mv (.t 18)), ⟨(some 20), .mv (.t 1), (some (19, false))⟩, ⟨(some 21), .mv (.t 0), (some (19, false))⟩, ⟨(some 22), .sbin .eql (.t 20) (.t 21), (some (19, false))⟩, W1 23 (.pick (.t 19) (.c (.bool true)) (.t 22)), W1 16 (.mv (.t 23))]) k254_5)) k254_26

def k254_28 : ACode := .seq (.region [W1 14 (.mv (.t 1)), W1 15 (.len true (.t 14)), W1 5 (.mv (.t 15))]) k254_27

def c254 : ACode := .seq (.region [W1 4 (.mv (.c (.int .i64 0)))]) k254_28
theorem ok254 : fnOk Tryz.prog 254 c254 143 [.t 4] = true := by kernel_rfl

def k255_0 : ACode := .cond (.t 16) (.seq (.region [W1 17 (.mv (.t 5)), W1 4 (.mv (.t 17))]) (.ret)) (.skip)

def k255_1 : ACode := .seq (.region [W1 11 (.mv (.t 1)), W1 12 (.mv (.t 0)), W1 13 (.mv (.t 5)), W1 14 (.ixs 1 (.t 12) (.t 13)), W1 15 (.ld none (.t 14)), W1 16 (.callv (.t 11) [(.t 15)])]) k255_0

def k255_2 : ACode := .seq (.block 1 ( .seq (.region [W1 10 (.mv (.t 8)), W1 5 (.mv (.t 10))]) k255_1)) (.region [W1 18 (.bin .add (.t 8) (.c (.int .i64 1))), W1 8 (.mv (.t 18))])

def b255_3 : ACode := .seq (.region [W1 9 (.bin .lss (.t 8) (.t 7))]) (.seq (.cond (.t 9) (.skip) (.exit 0)) k255_2)

def k255_4 : ACode := .seq (.seq (.region [W1 6 (.mv (.t 0)), W1 7 (.len false (.t 6)), W1 8 (.mv (.c (.int .i64 0)))]) (.block 0 ( .loop b255_3))) (.seq (.region [W1 4 (.mv (.c (.int .i64 (-1))))]) (.ret))

def c255 : ACode := .seq (.region [W1 4 (.mv (.c (.int .i64 0)))]) k255_4
theorem ok255 : fnOk Tryz.prog 255 c255 19 [.t 4] = true := by kernel_rfl

def k256_0 : ACode := .seq (.region [W1 167 (.mv (.t 0)), W1 168 (.mv (.t 1)), W1 169 (.cvt .u8 (.t 168)), W1 170 (.call 282 [(.t 167), (.t 169)]), W1 4 (.mv (.t 170))]) (.ret)

def k256_1 : ACode := .cond (.t 181) (.seq (.region [W1 182 (.mv (.t 5)), W1 4 (.mv (.t 182))]) (.ret)) (.skip)

def k256_2 : ACode := .block 10 ( .seq (.region [W1 178 (.ext (.t 176) 1), W1 179 (.ext (.t 176) 2), W1 5 (.mv (.t 178)), W1 6 (.mv (.t 179))]) (.seq (.region [W1 180 (.mv (.t 6)), W1 181 (.bin .eql (.t 180) (.c (.int .i32 65533)))]) k256_1))

def b256_3 : ACode := .seq (.region [W1 176 (.nxt (.t 175)), W1 177 (.ext (.t 176) 0)]) (.seq (.cond (.t 177) (.skip) (.exit 9)) k256_2)

def k256_4 : ACode := .seq (.seq (.region [W1 174 (.mv (.t 0)), W1 175 (.rng (.t 174))]) (.block 9 ( .loop b256_3))) (.seq (.region [W1 4 (.mv (.c (.int .i64 (-1))))]) (.ret))

def k256_5 : ACode := .cond (.t 183) (.seq (.region [W1 4 (.mv (.c (.int .i64 (-1))))]) (.ret)) (.wild)

def k256_6 : ACode := .seq (.region [W1 184 (.mv (.t 1)), W1 185 (.call 283 [(.t 184)]), W1 186 (.un .not (.t 185)), W1 183 (.mv (.t 186))]) k256_5

def k256_7 : ACode := .seq (.region [W1 172 (.mv (.t 1)), W1 173 (.bin .eql (.t 172) (.c (.int .i32 65533))), W1 171 (.mv (.t 173))]) (.cond (.t 171) k256_4 k256_6)

def k256_8 : ACode := .block 0 ( .seq (.region [W1 161 (.mv (.t 1)), W1 162 (.bin .leq (.c (.int .i32 0)) (.t 161)), W1 163 (.mv (.t 162)), ⟨(some 164), .mv (.t 1), (some (163, true))⟩, ⟨(some 165), .bin .lss (.t 164) (.c (.int .i32 128)), (some (163, true))⟩, W1 166 (.pick (.t 163) (.t 165) (.c (.bool false))), W1 160 (.mv (.t 166))]) (.cond (.t 160) k256_0 k256_7))

def c256 : ACode := .seq (.region [W1 4 (.mv (.c (.int .i64 0)))]) k256_8
theorem ok256 : fnOk Tryz.prog 256 c256 187 [.t 4] = true := by kernel_rfl

def k257_0 : ACode := .seq (.region [W1 3 (.mv (.t 0)), W1 4 (.bin .gtr (.t 3) (.c (.int .i64 8))), W1 2 (.mv (.t 4))]) (.ret)

def c257 : ACode := .seq (.region [W1 2 (.mv (.c (.bool false)))]) k257_0
theorem ok257 : fnOk Tryz.prog 257 c257 5 [.t 2] = true := by kernel_rfl

def k258_0 : ACode := .seq (.region [W1 17 (.ld (some 256) (.t 2)), ⟨none, .st 256 (.t 2) (.t 17), none⟩, W1 3 (.mv (.c (.bool false)))]) (.ret)

def k258_1 : ACode := .seq (.seq (.region [W1 15 (.mv (.t 5)), W1 16 (.bin .geq (.t 15) (.c (.int .u8 128)))]) (.cond (.t 16) k258_0 (.skip))) (.region [W1 18 (.mv (.t 5)), W1 19 (.ixa 256 1 (.t 2) (.t 18)), ⟨none, .st 1 (.t 19) (.c (.bool true)), none⟩])

def k258_2 : ACode := .seq (.block 1 ( .seq (.region [W1 12 (.mv (.t 0)), W1 13 (.mv (.t 4)), W1 14 (.ixstr (.t 12) (.t 13)), W1 5 (.mv (.t 14))]) k258_1)) (.region [W1 10 (.mv (.t 4)), W1 11 (.bin .add (.t 10) (.c (.int .i64 1))), W1 4 (.mv (.t 11))])

def b258_3 : ACode := .seq (.seq (.region [W1 6 (.mv (.t 4)), W1 7 (.mv (.t 0)), W1 8 (.len true (.t 7)), W1 9 (.bin .lss (.t 6) (.t 8))]) (.cond (.t 9) (.skip) (.exit 0))) k258_2

def k258_4 : ACode := .seq (.region [W1 20 (.ld (some 256) (.t 2)), ⟨none, .st 256 (.t 2) (.t 20), none⟩, W1 3 (.mv (.c (.bool true)))]) (.ret)

def k258_5 : ACode := .seq (.seq (.region [W1 4 (.mv (.c (.int .i64 0)))]) (.block 0 ( .loop b258_3))) k258_4

def c258 : ACode := .seq (.region [
 W1 2 (.new [.bool false, .bool false, .bool false, .bool false, .bool false, .bool false, .bool false, .bool false, .bool false, .bool false, .bool false, .bool false, .bool false, .bool false, .bool false, .bool false, .bool false, .bool false, .bool false, .bool false, .bool false, .bool false, .bool false, .bool false, .bool false, .bool false, .bool false, .bool false, .bool false, .bool false, .bool false, .bool false, .bool false, .bool false, .bool false, .bool false, .bool false, .bool false, .bool false, .bool false, .bool false, .bool false, .bool false, .bool false, .bool false, .bool false, .bool false, .bool false, .bool false, .bool false, .bool false, .bool false, .bool false, .bool false, .bool false, .bool false, .bool false, .bool false, .bool false, .bool false, .bool false, .bool false, .bool false, .bool false, .bool false, .bool false, .bool false, .bool false, .bool false, .bool false, .bool false, .bool false, .bool false, .bool false, .bool false, .bool false, .bool false, .bool false, .bool false, .bool false, .bool false, .bool false, .bool false, .bool false, .bool false, .bool false, .bool false, .bool false, .bool false, .bool false, .bool false, .bool false, .bool false, .bool false, .bool false, .bool false, .bool false, .bool false, .bool false, .bool false, .bool false, .bool false, .bool false, .bool false, .bool false, .bool false, .bool false, .bool false, .bool false, .bool false, .bool false, .bool false, .bool false, .bool false, .bool false, .bool false, .bool false, .bool false, .bool false, .bool false, .bool false, .bool false, .bool false, .bool false, .bool false, .bool false, .bool false, .bool false, .bool false, .bool false, .bool false, .bool false, .bool false, .bool false, .bool false, .bool false, .bool false, .bool false, .bool false, .bool false, .bool false, .bool false, .bool false, .bool false, .bool false, .bool false, .bool false, .bool false, .bool false, .bool false, .bool false, .bool false, .bool false, .bool false, .bool false, .bool false, .bool false, .bool false, .bool false, .bool false, .bool false, .bool false, .bool false, .bool false, .bool false, .bool false, .bool false, .bool false, .bool false, .bool false, .bool false, .bool false, .bool false, .bool false, .bool false, .bool false, .bool false, .bool false, .bool false, .bool false, .bool false, .bool false, .bool false, .bool false, .bool false, .bool false, .bool false, .bool false, .bool false, .bool false, .bool false, .bool false, .bool false, .bool false, .bool false, .bool false, .bool false, .bool false, .bool false, .bool false, .bool false, .bool false, .bool false, .bool false, .bool false, .bool false, .bool false, .bool false, .bool false, .bool false, .bool false, .bool false, .bool false, .bool false, .bool false, .bool false, .bool false, .bool false, .bool false, .bool false, .bool false, .bool false, .bool false, .bool false, .bool false, .bool false, .bool false, .bool false, .bool false, .bool false, .bool false, .bool false, .bool false, .bool false, .bool false, .bool false, .bool false, .bool false, .bool false, .bool false, .bool false, .bool false, .bool false, .bool false, .bool false, .bool false, .bool false, .bool false, .bool false, .bool false, .bool false, .bool false, .bool false, .bool false, .bool false, .bool false]),
 W1 3 (.mv (.c (.bool false)))]) k258_5
theorem ok258 : fnOk Tryz.prog 258 c258 21 [.c 2 (some 256), .t 3] = true := by kernel_rfl

def k259_0 : ACode := .seq (.region [W1 5 (.mv (.t 0)), W1 6 (.mv (.t 1)), W1 7 (.nck (.t 5)), W1 8 (.ixa 256 1 (.t 7) (.t 6)), W1 9 (.ld none (.t 8)), W1 4 (.mv (.t 9))]) (.ret)

def c259 : ACode := .seq (.region [W1 4 (.mv (.c (.bool false)))]) k259_0
theorem ok259 : fnOk Tryz.prog 259 c259 10 [.t 4] = true := by kernel_rfl

def k261_0 : ACode := .seq (.block 3 ( .drawn [(5, W1 38 (.mv (.t 0))), (6, W1 39 (.mv (.t 7))), (7, W1 40 (.bin .sub (.t 39) (.c (.int .i64 1)))), (8, W1 41 (.ixs 1 (.t 38) (.t 40))), (9, W1 42 (.ld none (.t 41))), (10, W1 43 (.mv (.t 0))), (11, W1 44 (.mv (.t 7))), (12, W1 45 (.ixs 1 (.t 43) (.t 44))), (13, W1 46 (.ld none (.t 45))), (0, W1 33 (.mv (.t 0))), (1, W1 34 (.mv (.t 7))), (14, W1 47 (.ixs 1 (.t 33) (.t 34))), (15, ⟨none, .st 1 (.t 47) (.t 42), none⟩), (2, W1 35 (.mv (.t 0))), (3, W1 36 (.mv (.t 7))), (4, W1 37 (.bin .sub (.t 36) (.c (.int .i64 1)))),
 (16, W1 48 (.ixs 1 (.t 35) (.t 37))), (17, ⟨none, .st 1 (.t 48) (.t 46), none⟩)] [[], [], [], [], [3], [], [], [6], [5, 7], [8], [], [], [10, 11], [12], [0, 1, 0, 1, 5, 6, 7, 8, 9, 13], [14, 9, 0, 1, 5, 6, 7, 8, 9, 13], [2, 4, 0, 1, 2, 3, 4, 5, 6, 7, 8, 9, 10, 11, 12, 13, 14, 15], [16, 13, 15, 0, 1, 2, 3, 4, 5, 6, 7, 8, 9, 10, 11, 12, 13, 14, 15]] 0)) (.region [W1 31 (.mv (.t 7)), W1 32 (.bin .sub (.t 31) (.c (.int .i64 1))), W1 7 (.mv (.t 32))])

def b261_1 : ACode := .seq (.seq (.drawn [(0, W1 16 (.mv (.t 7))), (1, W1 17 (.mv (.t 1))), (2, W1 18 (.bin .gtr (.t 16) (.t 17))), (3, W1 19 (.mv (.t 18))), (4, ⟨(some 20), .mv (.t 0), (some (19, true))⟩), (5, ⟨(some 21), .mv (.t 7), (some (19, true))⟩), (6, ⟨(some 22), .ixs 1 (.t 20) (.t 21), (some (19, true))⟩), (7, ⟨(some 23), .ld none (.t 22), (some (19, true))⟩), (8, ⟨(some 24), .mv (.t 0), (some (19, true))⟩), (9, ⟨(some 25), .mv (.t 7), (some (19, true))⟩), (10, ⟨(some 26), .bin .sub (.t 25) (.c (.int .i64 1)), (some (19, true))⟩),
 (11, ⟨(some 27), .ixs 1 (.t 24) (.t 26), (some (19, true))⟩), (12, ⟨(some 28), .ld none (.t 27), (some (19, true))⟩), (13, ⟨(some 29), .call 267 [(.t 23), (.t 28)], (some (19, true))⟩), (14, W1 30 (.pick (.t 19) (.t 29) (.c (.bool false))))] [[], [], [0, 1], [2], [3], [3], [4, 5, 3], [6, 3], [3], [3], [9, 3], [8, 10, 3], [11, 3], [7, 12, 3, 3], [3, 13]] 0) (.cond (.t 30) (.skip) (.exit 2))) k261_0

def k261_2 : ACode := .seq (.block 1 ( .seq (.region [W1 15 (.mv (.t 6)), W1 7 (.mv (.t 15))]) (.block 2 ( .loop b261_1)))) (.region [W1 13 (.mv (.t 6)), W1 14 (.bin .add (.t 13) (.c (.int .i64 1))), W1 6 (.mv (.t 14))])

def b261_3 : ACode := .seq (.seq (.region [W1 10 (.mv (.t 6)), W1 11 (.mv (.t 2)), W1 12 (.bin .lss (.t 10) (.t 11))]) (.cond (.t 12) (.skip) (.exit 0))) k261_2

def c261 : ACode := .seq (.region [W1 8 (.mv (.t 1)), W1 9 (.bin .add (.t 8) (.c (.int .i64 1))), W1 6 (.mv (.t 9))]) (.block 0 ( .loop b261_3))
theorem ok261 : fnOk Tryz.prog 261 c261 49 [] = true := by kernel_rfl

def k262_0 : ACode := .seq (.block 1 ( .region [W1 22 (.mv (.t 0)), W1 23 (.mv (.t 9)), W1 24 (.mv (.t 8)), W1 25 (.mv (.t 6)), W1 26 (.call 284 [(.t 22), (.t 23), (.t 24), (.t 25)])])) (.region [W1 20 (.mv (.t 9)), W1 21 (.bin .sub (.t 20) (.c (.int .i64 1))), W1 9 (.mv (.t 21))])

def b262_1 : ACode := .seq (.seq (.region [W1 18 (.mv (.t 9)), W1 19 (.bin .geq (.t 18) (.c (.int .i64 0)))]) (.cond (.t 19) (.skip) (.exit 0))) k262_0

def k262_2 : ACode := .region [W1 51 (.mv (.t 0)), W1 52 (.mv (.t 7)), W1 53 (.mv (.t 10)), W1 54 (.mv (.t 6)), W1 55 (.call 284 [(.t 51), (.t 52), (.t 53), (.t 54)])]

def k262_3 : ACode := .seq (.block 3 ( .seq (.drawn [(6, W1 39 (.mv (.t 0))), (7, W1 40 (.mv (.t 6))), (8, W1 41 (.mv (.t 10))), (9, W1 42 (.bin .add (.t 40) (.t 41))), (10, W1 43 (.ixs 1 (.t 39) (.t 42))), (11, W1 44 (.ld none (.t 43))), (12, W1 45 (.mv (.t 0))), (13, W1 46 (.mv (.t 6))), (14, W1 47 (.ixs 1 (.t 45) (.t 46))), (15, W1 48 (.ld none (.t 47))), (0, W1 33 (.mv (.t 0))), (1, W1 34 (.mv (.t 6))), (16, W1 49 (.ixs 1 (.t 33) (.t 34))), (17, ⟨none, .st 1 (.t 49) (.t 44), none⟩), (2, W1 35 (.mv (.t 0))), (3, W1 36 (.mv (.t 6))), (4, W1 37 (.mv (.t 10))),
 (5, W1 38 (.bin .add (.t 36) (.t 37))), (18, W1 50 (.ixs 1 (.t 35) (.t 38))), (19, ⟨none, .st 1 (.t 50) (.t 48), none⟩)] [[], [], [], [], [], [3, 4], [], [], [], [7, 8], [6, 9], [10], [], [], [12, 13], [14], [0, 1, 0, 1, 6, 7, 8, 9, 10, 11, 15], [16, 11, 0, 1, 6, 7, 8, 9, 10, 11, 15], [2, 5, 0, 1, 2, 3, 4, 5, 6, 7, 8, 9, 10, 11, 12, 13, 14, 15, 16, 17], [18, 15, 17, 0, 1, 2, 3, 4, 5, 6, 7, 8, 9, 10, 11, 12, 13, 14, 15, 16, 17]] 0) k262_2)) (.region [W1 31 (.mv (.t 10)), W1 32 (.bin .sub (.t 31) (.c (.int .i64 1))), W1 10 (.mv (.t 32))])

def b262_4 : ACode := .seq (.seq (.region [W1 29 (.mv (.t 10)), W1 30 (.bin .geq (.t 29) (.c (.int .i64 0)))]) (.cond (.t 30) (.skip) (.exit 2))) k262_3

def k262_5 : ACode := .seq (.region [W1 27 (.mv (.t 8)), W1 28 (.bin .sub (.t 27) (.c (.int .i64 1))), W1 10 (.mv (.t 28))]) (.block 2 ( .loop b262_4))

def k262_6 : ACode := .seq (.seq (.region [W1 15 (.mv (.t 8)), W1 16 (.bin .sub (.t 15) (.c (.int .i64 1))), W1 17 (.bin .quo (.t 16) (.c (.int .i64 2))), W1 9 (.mv (.t 17))]) (.block 0 ( .loop b262_1))) k262_5

def k262_7 : ACode := .seq (.region [W1 12 (.mv (.t 2)), W1 13 (.mv (.t 1)), W1 14 (.bin .sub (.t 12) (.t 13)), W1 8 (.mv (.t 14))]) k262_6

def c262 : ACode := .seq (.region [W1 11 (.mv (.t 1)), W1 6 (.mv (.t 11))]) (.seq (.region [W1 7 (.mv (.c (.int .i64 0)))]) k262_7)
theorem ok262 : fnOk Tryz.prog 262 c262 56 [] = true := by kernel_rfl

def k263_0 : ACode := .region [W1 44 (.mv (.t 10)), W1 45 (.mv (.t 6)), W1 46 (.bin .sub (.t 44) (.t 45)), W1 10 (.mv (.t 46))]

def k263_1 : ACode := .drawn [(6, W1 53 (.mv (.t 0))), (7, W1 54 (.mv (.t 1))), (8, W1 55 (.mv (.t 10))), (9, W1 56 (.bin .add (.t 54) (.t 55))), (10, W1 57 (.ixs 1 (.t 53) (.t 56))), (11, W1 58 (.ld none (.t 57))), (12, W1 59 (.mv (.t 0))), (13, W1 60 (.mv (.t 9))), (14, W1 61 (.ixs 1 (.t 59) (.t 60))), (15, W1 62 (.ld none (.t 61))), (0, W1 47 (.mv (.t 0))), (1, W1 48 (.mv (.t 9))), (16, W1 63 (.ixs 1 (.t 47) (.t 48))), (17, ⟨none, .st 1 (.t 63) (.t 58), none⟩), (2, W1 49 (.mv (.t 0))), (3, W1 50 (.mv (.t 1))), (4, W1 51 (.mv (.t 10))), (5, W1 52 (.bin .add (.t 50) (.t 51))),
 (18, W1 64 (.ixs 1 (.t 49) (.t 52))), (19, ⟨none, .st 1 (.t 64) (.t 62), none⟩)] [[], [], [], [], [], [3, 4], [], [], [], [7, 8], [6, 9], [10], [], [], [12, 13], [14], [0, 1, 0, 1, 6, 7, 8, 9, 10, 11, 15], [16, 11, 0, 1, 6, 7, 8, 9, 10, 11, 15], [2, 5, 0, 1, 2, 3, 4, 5, 6, 7, 8, 9, 10, 11, 12, 13, 14, 15, 16, 17], [18, 15, 17, 0, 1, 2, 3, 4, 5, 6, 7, 8, 9, 10, 11, 12, 13, 14, 15, 16, 17]] 0

def k263_2 : ACode := .seq (.seq (.region [W1 41 (.mv (.t 10)), W1 42 (.mv (.t 6)), W1 43 (.bin .geq (.t 41) (.t 42))]) (.cond (.t 43) k263_0 (.skip))) k263_1

def k263_3 : ACode := .seq (.block 1 ( .seq (.region [W1 36 (.call 286 [(.t 7)]), W1 37 (.mv (.t 8)), W1 38 (.bin .sub (.t 37) (.c (.int .u64 1))), W1 39 (.bin .and (.t 36) (.t 38)), W1 40 (.cvt .i64 (.t 39)), W1 10 (.mv (.t 40))]) k263_2)) (.region [W1 34 (.mv (.t 9)), W1 35 (.bin .add (.t 34) (.c (.int .i64 1))), W1 9 (.mv (.t 35))])

def b263_4 : ACode := .seq (.seq (.region [W1 26 (.mv (.t 9)), W1 27 (.mv (.t 1)), W1 28 (.mv (.t 6)), W1 29 (.bin .quo (.t 28) (.c (.int .i64 4))), W1 30 (.bin .mul (.t 29) (.c (.int .i64 2))), W1 31 (.bin .add (.t 27) (.t 30)), W1 32 (.bin .add (.t 31) (.c (.int .i64 1))), W1 33 (.bin .leq (.t 26) (.t 32))]) (.cond (.t 33) (.skip) (.exit 0))) k263_3

def k263_5 : ACode := .seq (.region [W1 20 (.mv (.t 1)), W1 21 (.mv (.t 6)), W1 22 (.bin .quo (.t 21) (.c (.int .i64 4))), W1 23 (.bin .mul (.t 22) (.c (.int .i64 2))), W1 24 (.bin .add (.t 20) (.t 23)), W1 25 (.bin .sub (.t 24) (.c (.int .i64 1))), W1 9 (.mv (.t 25))]) (.block 0 ( .loop b263_4))

def k263_6 : ACode := .seq (.region [W1 18 (.mv (.t 6)), W1 19 (.call 285 [(.t 18)]), W1 8 (.mv (.t 19))]) k263_5

def k263_7 : ACode := .seq (.region [W1 16 (.mv (.t 6)), W1 17 (.cvt .u64 (.t 16)), W1 7 (.new [.int .u64 0]), ⟨none, .st 1 (.t 7) (.t 17), none⟩]) k263_6

def k263_8 : ACode := .seq (.region [W1 14 (.mv (.t 6)), W1 15 (.bin .geq (.t 14) (.c (.int .i64 8)))]) (.cond (.t 15) k263_7 (.skip))

def c263 : ACode := .seq (.region [W1 11 (.mv (.t 2)), W1 12 (.mv (.t 1)), W1 13 (.bin .sub (.t 11) (.t 12)), W1 6 (.mv (.t 13))]) k263_8
theorem ok263 : fnOk Tryz.prog 263 c263 65 [] = true := by kernel_rfl

def k264_0 : ACode := .region [W1 41 (.mv (.t 0)), W1 42 (.mv (.t 12)), W1 43 (.call 287 [(.t 41), (.t 42), (.t 9)]), W1 12 (.mv (.t 43))]

def k264_1 : ACode := .seq (.region [W1 38 (.mv (.t 0)), W1 39 (.mv (.t 11)), W1 40 (.call 287 [(.t 38), (.t 39), (.t 9)]), W1 11 (.mv (.t 40))]) k264_0

def k264_2 : ACode := .seq (.region [W1 35 (.mv (.t 0)), W1 36 (.mv (.t 10)), W1 37 (.call 287 [(.t 35), (.t 36), (.t 9)]), W1 10 (.mv (.t 37))]) k264_1

def k264_3 : ACode := .region [W1 44 (.mv (.t 0)), W1 45 (.mv (.t 10)), W1 46 (.mv (.t 11)), W1 47 (.mv (.t 12)), W1 48 (.call 288 [(.t 44), (.t 45), (.t 46), (.t 47), (.t 9)]), W1 11 (.mv (.t 48))]

def k264_4 : ACode := .seq (.seq (.region [W1 33 (.mv (.t 8)), W1 34 (.bin .geq (.t 33) (.c (.int .i64 50)))]) (.cond (.t 34) k264_2 (.skip))) k264_3

def k264_5 : ACode := .seq (.region [W1 53 (.mv (.t 11)), W1 6 (.mv (.t 53)), W1 7 (.mv (.c (.int .i64 1)))]) (.ret)

def k264_6 : ACode := .seq (.region [W1 56 (.mv (.t 11)), W1 6 (.mv (.t 56)), W1 7 (.mv (.c (.int .i64 2)))]) (.ret)

def k264_7 : ACode := .seq (.region [W1 50 (.mv (.t 11)), W1 6 (.mv (.t 50)), W1 7 (.mv (.c (.int .i64 0)))]) (.ret)

def k264_8 : ACode := .seq (.region [W1 55 (.bin .eql (.t 49) (.c (.int .i64 12))), W1 54 (.mv (.t 55))]) (.cond (.t 54) k264_6 k264_7)

def k264_9 : ACode := .block 0 ( .seq (.region [W1 52 (.bin .eql (.t 49) (.c (.int .i64 0))), W1 51 (.mv (.t 52))]) (.cond (.t 51) k264_5 k264_8))

def k264_10 : ACode := .seq (.seq (.region [W1 31 (.mv (.t 8)), W1 32 (.bin .geq (.t 31) (.c (.int .i64 8)))]) (.cond (.t 32) k264_4 (.skip))) (.seq (.region [W1 49 (.ld none (.t 9))]) k264_9)

def k264_11 : ACode := .seq (.region [W1 26 (.mv (.t 1)), W1 27 (.mv (.t 8)), W1 28 (.bin .quo (.t 27) (.c (.int .i64 4))), W1 29 (.bin .mul (.t 28) (.c (.int .i64 3))), W1 30 (.bin .add (.t 26) (.t 29)), W1 12 (.mv (.t 30))]) k264_10

def k264_12 : ACode := .seq (.region [W1 21 (.mv (.t 1)), W1 22 (.mv (.t 8)), W1 23 (.bin .quo (.t 22) (.c (.int .i64 4))), W1 24 (.bin .mul (.t 23) (.c (.int .i64 2))), W1 25 (.bin .add (.t 21) (.t 24)), W1 11 (.mv (.t 25))]) k264_11

def k264_13 : ACode := .seq (.region [W1 16 (.mv (.t 1)), W1 17 (.mv (.t 8)), W1 18 (.bin .quo (.t 17) (.c (.int .i64 4))), W1 19 (.bin .mul (.t 18) (.c (.int .i64 1))), W1 20 (.bin .add (.t 16) (.t 19)), W1 10 (.mv (.t 20))]) k264_12

def k264_14 : ACode := .seq (.region [W1 13 (.mv (.t 2)), W1 14 (.mv (.t 1)), W1 15 (.bin .sub (.t 13) (.t 14)), W1 8 (.mv (.t 15))]) (.seq (.region [W1 9 (.new [.int .i64 0])]) k264_13)

def c264 : ACode := .seq (.region [W1 6 (.mv (.c (.int .i64 0))), W1 7 (.mv (.c (.int .i64 0)))]) k264_14
theorem ok264 : fnOk Tryz.prog 264 c264 57 [.t 6, .t 7] = true := by kernel_rfl

def k265_0 : ACode := .seq (.region [W1 28 (.mv (.t 6)), W1 29 (.bin .add (.t 28) (.c (.int .i64 1))), W1 6 (.mv (.t 29))]) (.region [W1 30 (.mv (.t 7)), W1 31 (.bin .sub (.t 30) (.c (.int .i64 1))), W1 7 (.mv (.t 31))])

def k265_1 : ACode := .block 1 ( .seq (.drawn [(4, W1 18 (.mv (.t 0))), (5, W1 19 (.mv (.t 7))), (6, W1 20 (.ixs 1 (.t 18) (.t 19))), (7, W1 21 (.ld none (.t 20))), (8, W1 22 (.mv (.t 0))), (9, W1 23 (.mv (.t 6))), (10, W1 24 (.ixs 1 (.t 22) (.t 23))), (11, W1 25 (.ld none (.t 24))), (0, W1 14 (.mv (.t 0))), (1, W1 15 (.mv (.t 6))), (12, W1 26 (.ixs 1 (.t 14) (.t 15))), (13, ⟨none, .st 1 (.t 26) (.t 21), none⟩), (2, W1 16 (.mv (.t 0))), (3, W1 17 (.mv (.t 7))), (14, W1 27 (.ixs 1 (.t 16) (.t 17))), (15, ⟨none, .st 1 (.t 27) (.t 25), none⟩)]
 [[], [], [], [], [], [], [4, 5], [6], [], [], [8, 9], [10], [0, 1, 0, 1, 4, 5, 6, 7, 11], [12, 7, 0, 1, 4, 5, 6, 7, 11], [2, 3, 0, 1, 2, 3, 4, 5, 6, 7, 8, 9, 10, 11, 12, 13], [14, 11, 13, 0, 1, 2, 3, 4, 5, 6, 7, 8, 9, 10, 11, 12, 13]] 0) k265_0)

def b265_2 : ACode := .seq (.seq (.region [W1 11 (.mv (.t 6)), W1 12 (.mv (.t 7)), W1 13 (.bin .lss (.t 11) (.t 12))]) (.cond (.t 13) (.skip) (.exit 0))) k265_1

def k265_3 : ACode := .seq (.region [W1 9 (.mv (.t 2)), W1 10 (.bin .sub (.t 9) (.c (.int .i64 1))), W1 7 (.mv (.t 10))]) (.block 0 ( .loop b265_2))

def c265 : ACode := .seq (.region [W1 8 (.mv (.t 1)), W1 6 (.mv (.t 8))]) k265_3
theorem ok265 : fnOk Tryz.prog 265 c265 32 [] = true := by kernel_rfl

def k266_0 : ACode := .block 3 ( .region [W1 33 (.mv (.t 7)), W1 34 (.bin .add (.t 33) (.c (.int .i64 1))), W1 7 (.mv (.t 34))])

def b266_1 : ACode := .seq (.seq (.drawn [(0, W1 17 (.mv (.t 7))), (1, W1 18 (.mv (.t 2))), (2, W1 19 (.bin .lss (.t 17) (.t 18))), (3, W1 20 (.mv (.t 19))), (4, ⟨(some 21), .mv (.t 0), (some (20, true))⟩), (5, ⟨(some 22), .mv (.t 7), (some (20, true))⟩), (6, ⟨(some 23), .ixs 1 (.t 21) (.t 22), (some (20, true))⟩), (7, ⟨(some 24), .ld none (.t 23), (some (20, true))⟩), (8, ⟨(some 25), .mv (.t 0), (some (20, true))⟩), (9, ⟨(some 26), .mv (.t 7), (some (20, true))⟩), (10, ⟨(some 27), .bin .sub (.t 26) (.c (.int .i64 1)), (some (20, true))⟩),
 (11, ⟨(some 28), .ixs 1 (.t 25) (.t 27), (some (20, true))⟩), (12, ⟨(some 29), .ld none (.t 28), (some (20, true))⟩), (13, ⟨(some 30), .call 267 [(.t 24), (.t 29)], (some (20, true))⟩), (14, ⟨(some 31), .un .not (.t 30), (some (20, true))⟩), (15, W1 32 (.pick (.t 20) (.t 31) (.c (.bool false))))] [[], [], [0, 1], [2], [3], [3], [4, 5, 3], [6, 3], [3], [3], [9, 3], [8, 10, 3], [11, 3], [7, 12, 3, 3], [13, 3], [3, 14]] 0) (.cond (.t 32) (.skip) (.exit 2))) k266_0

def k266_2 : ACode := .cond (.t 37) (.seq (.region [W1 6 (.mv (.c (.bool true)))]) (.ret)) (.skip)

def k266_3 : ACode := .cond (.t 41) (.seq (.region [W1 6 (.mv (.c (.bool false)))]) (.ret)) (.skip)

def k266_4 : ACode := .drawn [(5, W1 84 (.mv (.t 0))), (6, W1 85 (.mv (.t 9))), (7, W1 86 (.bin .sub (.t 85) (.c (.int .i64 1)))), (8, W1 87 (.ixs 1 (.t 84) (.t 86))), (9, W1 88 (.ld none (.t 87))), (10, W1 89 (.mv (.t 0))), (11, W1 90 (.mv (.t 9))), (12, W1 91 (.ixs 1 (.t 89) (.t 90))), (13, W1 92 (.ld none (.t 91))), (0, W1 79 (.mv (.t 0))), (1, W1 80 (.mv (.t 9))), (14, W1 93 (.ixs 1 (.t 79) (.t 80))), (15, ⟨none, .st 1 (.t 93) (.t 88), none⟩), (2, W1 81 (.mv (.t 0))), (3, W1 82 (.mv (.t 9))), (4, W1 83 (.bin .sub (.t 82) (.c (.int .i64 1)))), (16, W1 94 (.ixs 1 (.t 81) (.t 83))),
 (17, ⟨none, .st 1 (.t 94) (.t 92), none⟩)] [[], [], [], [], [3], [], [], [6], [5, 7], [8], [], [], [10, 11], [12], [0, 1, 0, 1, 5, 6, 7, 8, 9, 13], [14, 9, 0, 1, 5, 6, 7, 8, 9, 13], [2, 4, 0, 1, 2, 3, 4, 5, 6, 7, 8, 9, 10, 11, 12, 13, 14, 15], [16, 13, 15, 0, 1, 2, 3, 4, 5, 6, 7, 8, 9, 10, 11, 12, 13, 14, 15]] 0

def k266_5 : ACode := .seq (.block 5 ( .seq (.seq (.drawn [(0, W1 68 (.mv (.t 0))), (1, W1 69 (.mv (.t 9))), (2, W1 70 (.ixs 1 (.t 68) (.t 69))), (3, W1 71 (.ld none (.t 70))), (4, W1 72 (.mv (.t 0))), (5, W1 73 (.mv (.t 9))), (6, W1 74 (.bin .sub (.t 73) (.c (.int .i64 1)))), (7, W1 75 (.ixs 1 (.t 72) (.t 74))), (8, W1 76 (.ld none (.t 75))), (9, W1 77 (.call 267 [(.t 71), (.t 76)])), (10, W1 78 (.un .not (.t 77)))] [[], [], [0, 1], [2], [], [], [5], [4, 6], [7], [3, 8], [9]] 0) (.cond (.t 78) (.exit 4) (.skip))) k266_4)) (.region [W1 66 (.mv (.t 9)),
 W1 67 (.bin .sub (.t 66) (.c (.int .i64 1))), W1 9 (.mv (.t 67))])

def b266_6 : ACode := .seq (.seq (.region [W1 64 (.mv (.t 9)), W1 65 (.bin .geq (.t 64) (.c (.int .i64 1)))]) (.cond (.t 65) (.skip) (.exit 4))) k266_5

def k266_7 : ACode := .seq (.region [W1 62 (.mv (.t 7)), W1 63 (.bin .sub (.t 62) (.c (.int .i64 1))), W1 9 (.mv (.t 63))]) (.block 4 ( .loop b266_6))

def k266_8 : ACode := .drawn [(5, W1 122 (.mv (.t 0))), (6, W1 123 (.mv (.t 10))), (7, W1 124 (.bin .sub (.t 123) (.c (.int .i64 1)))), (8, W1 125 (.ixs 1 (.t 122) (.t 124))), (9, W1 126 (.ld none (.t 125))), (10, W1 127 (.mv (.t 0))), (11, W1 128 (.mv (.t 10))), (12, W1 129 (.ixs 1 (.t 127) (.t 128))), (13, W1 130 (.ld none (.t 129))), (0, W1 117 (.mv (.t 0))), (1, W1 118 (.mv (.t 10))), (14, W1 131 (.ixs 1 (.t 117) (.t 118))), (15, ⟨none, .st 1 (.t 131) (.t 126), none⟩), (2, W1 119 (.mv (.t 0))), (3, W1 120 (.mv (.t 10))), (4, W1 121 (.bin .sub (.t 120) (.c (.int .i64 1)))),
 (16, W1 132 (.ixs 1 (.t 119) (.t 121))), (17, ⟨none, .st 1 (.t 132) (.t 130), none⟩)] [[], [], [], [], [3], [], [], [6], [5, 7], [8], [], [], [10, 11], [12], [0, 1, 0, 1, 5, 6, 7, 8, 9, 13], [14, 9, 0, 1, 5, 6, 7, 8, 9, 13], [2, 4, 0, 1, 2, 3, 4, 5, 6, 7, 8, 9, 10, 11, 12, 13, 14, 15], [16, 13, 15, 0, 1, 2, 3, 4, 5, 6, 7, 8, 9, 10, 11, 12, 13, 14, 15]] 0

def k266_9 : ACode := .seq (.block 7 ( .seq (.seq (.drawn [(0, W1 106 (.mv (.t 0))), (1, W1 107 (.mv (.t 10))), (2, W1 108 (.ixs 1 (.t 106) (.t 107))), (3, W1 109 (.ld none (.t 108))), (4, W1 110 (.mv (.t 0))), (5, W1 111 (.mv (.t 10))), (6, W1 112 (.bin .sub (.t 111) (.c (.int .i64 1)))), (7, W1 113 (.ixs 1 (.t 110) (.t 112))), (8, W1 114 (.ld none (.t 113))), (9, W1 115 (.call 267 [(.t 109), (.t 114)])), (10, W1 116 (.un .not (.t 115)))] [[], [], [0, 1], [2], [], [], [5], [4, 6], [7], [3, 8], [9]] 0) (.cond (.t 116) (.exit 6) (.skip))) k266_8)) (.region [W1 104 (.mv (.t 10)),
 W1 105 (.bin .add (.t 104) (.c (.int .i64 1))), W1 10 (.mv (.t 105))])

def b266_10 : ACode := .seq (.seq (.region [W1 101 (.mv (.t 10)), W1 102 (.mv (.t 2)), W1 103 (.bin .lss (.t 101) (.t 102))]) (.cond (.t 103) (.skip) (.exit 6))) k266_9

def k266_11 : ACode := .seq (.region [W1 99 (.mv (.t 7)), W1 100 (.bin .add (.t 99) (.c (.int .i64 1))), W1 10 (.mv (.t 100))]) (.block 6 ( .loop b266_10))

def k266_12 : ACode := .seq (.region [W1 95 (.mv (.t 2)), W1 96 (.mv (.t 7)), W1 97 (.bin .sub (.t 95) (.t 96)), W1 98 (.bin .geq (.t 97) (.c (.int .i64 2)))]) (.cond (.t 98) k266_11 (.skip))

def k266_13 : ACode := .seq (.seq (.region [W1 58 (.mv (.t 7)), W1 59 (.mv (.t 1)), W1 60 (.bin .sub (.t 58) (.t 59)), W1 61 (.bin .geq (.t 60) (.c (.int .i64 2)))]) (.cond (.t 61) k266_7 (.skip))) k266_12

def k266_14 : ACode := .seq (.drawn [(5, W1 47 (.mv (.t 0))), (6, W1 48 (.mv (.t 7))), (7, W1 49 (.bin .sub (.t 48) (.c (.int .i64 1)))), (8, W1 50 (.ixs 1 (.t 47) (.t 49))), (9, W1 51 (.ld none (.t 50))), (10, W1 52 (.mv (.t 0))), (11, W1 53 (.mv (.t 7))), (12, W1 54 (.ixs 1 (.t 52) (.t 53))), (13, W1 55 (.ld none (.t 54))), (0, W1 42 (.mv (.t 0))), (1, W1 43 (.mv (.t 7))), (14, W1 56 (.ixs 1 (.t 42) (.t 43))), (15, ⟨none, .st 1 (.t 56) (.t 51), none⟩), (2, W1 44 (.mv (.t 0))), (3, W1 45 (.mv (.t 7))), (4, W1 46 (.bin .sub (.t 45) (.c (.int .i64 1)))), (16, W1 57 (.ixs 1 (.t 44) (.t 46))),
 (17, ⟨none, .st 1 (.t 57) (.t 55), none⟩)] [[], [], [], [], [3], [], [], [6], [5, 7], [8], [], [], [10, 11], [12], [0, 1, 0, 1, 5, 6, 7, 8, 9, 13], [14, 9, 0, 1, 5, 6, 7, 8, 9, 13], [2, 4, 0, 1, 2, 3, 4, 5, 6, 7, 8, 9, 10, 11, 12, 13, 14, 15], [16, 13, 15, 0, 1, 2, 3, 4, 5, 6, 7, 8, 9, 10, 11, 12, 13, 14, 15]] 0) k266_13

def k266_15 : ACode := .seq (.seq (.region [W1 38 (.mv (.t 2)), W1 39 (.mv (.t 1)), W1 40 (.bin .sub (.t 38) (.t 39)), W1 41 (.bin .lss (.t 40) (.c (.int .i64 50)))]) k266_3) k266_14

def k266_16 : ACode := .seq (.seq (.region [W1 35 (.mv (.t 7)), W1 36 (.mv (.t 2)), W1 37 (.bin .eql (.t 35) (.t 36))]) k266_2) k266_15

def k266_17 : ACode := .seq (.block 1 ( .seq (.block 2 ( .loop b266_1)) k266_16)) (.region [W1 15 (.mv (.t 8)), W1 16 (.bin .add (.t 15) (.c (.int .i64 1))), W1 8 (.mv (.t 16))])

def b266_18 : ACode := .seq (.seq (.region [W1 13 (.mv (.t 8)), W1 14 (.bin .lss (.t 13) (.c (.int .i64 5)))]) (.cond (.t 14) (.skip) (.exit 0))) k266_17

def k266_19 : ACode := .seq (.seq (.region [W1 8 (.mv (.c (.int .i64 0)))]) (.block 0 ( .loop b266_18))) (.seq (.region [W1 6 (.mv (.c (.bool false)))]) (.ret))

def k266_20 : ACode := .seq (.region [W1 11 (.mv (.t 1)), W1 12 (.bin .add (.t 11) (.c (.int .i64 1))), W1 7 (.mv (.t 12))]) k266_19

def c266 : ACode := .seq (.region [W1 6 (.mv (.c (.bool false)))]) k266_20
theorem ok266 : fnOk Tryz.prog 266 c266 133 [.t 6] = true := by kernel_rfl

def k267_0 : ACode := .seq (.region [W1 5 (.mv (.t 0)), W1 6 (.call 289 [(.t 5)]), W1 7 (.mv (.t 6)), ⟨(some 8), .mv (.t 1), (some (7, true))⟩, ⟨(some 9), .call 289 [(.t 8)], (some (7, true))⟩, ⟨(some 10), .un .not (.t 9), (some (7, true))⟩, W1 11 (.pick (.t 7) (.t 10) (.c (.bool false))), W1 12 (.mv (.t 11)), ⟨(some 13), .mv (.t 0), (some (12, false))⟩, ⟨(some 14), .mv (.t 1), (some (12, false))⟩, ⟨(some 15), .bin .lss (.t 13) (.t 14), (some (12, false))⟩, W1 16 (.pick (.t 12) (.c (.bool true)) (.t 15)), W1 4 (.mv (.t 16))]) (.ret)

def c267 : ACode := .seq (.region [W1 4 (.mv (.c (.bool false)))]) k267_0
theorem ok267 : fnOk Tryz.prog 267 c267 17 [.t 4] = true := by kernel_rfl

def k268_0 : ACode := .block 3 ( .region [W1 44 (.mv (.t 9)), W1 45 (.bin .add (.t 44) (.c (.int .i64 1))), W1 9 (.mv (.t 45))])

def b268_1 : ACode := .seq (.seq (.drawn [(0, W1 29 (.mv (.t 9))), (1, W1 30 (.mv (.t 10))), (2, W1 31 (.bin .leq (.t 29) (.t 30))), (3, W1 32 (.mv (.t 31))), (4, ⟨(some 33), .mv (.t 0), (some (32, true))⟩), (5, ⟨(some 34), .mv (.t 1), (some (32, true))⟩), (6, ⟨(some 35), .ixs 1 (.t 33) (.t 34), (some (32, true))⟩), (7, ⟨(some 36), .ld none (.t 35), (some (32, true))⟩), (8, ⟨(some 37), .mv (.t 0), (some (32, true))⟩), (9, ⟨(some 38), .mv (.t 9), (some (32, true))⟩), (10, ⟨(some 39), .ixs 1 (.t 37) (.t 38), (some (32, true))⟩), (11, ⟨(some 40), .ld none (.t 39), (some (32, true))⟩),
 (12, ⟨(some 41), .call 267 [(.t 36), (.t 40)], (some (32, true))⟩), (13, ⟨(some 42), .un .not (.t 41), (some (32, true))⟩), (14, W1 43 (.pick (.t 32) (.t 42) (.c (.bool false))))] [[], [], [0, 1], [2], [3], [3], [4, 5, 3], [6, 3], [3], [3], [8, 9, 3], [10, 3], [7, 11, 3, 3], [12, 3], [3, 13]] 0) (.cond (.t 43) (.skip) (.exit 2))) k268_0

def k268_2 : ACode := .block 5 ( .region [W1 60 (.mv (.t 10)), W1 61 (.bin .sub (.t 60) (.c (.int .i64 1))), W1 10 (.mv (.t 61))])

def b268_3 : ACode := .seq (.seq (.drawn [(0, W1 46 (.mv (.t 9))), (1, W1 47 (.mv (.t 10))), (2, W1 48 (.bin .leq (.t 46) (.t 47))), (3, W1 49 (.mv (.t 48))), (4, ⟨(some 50), .mv (.t 0), (some (49, true))⟩), (5, ⟨(some 51), .mv (.t 1), (some (49, true))⟩), (6, ⟨(some 52), .ixs 1 (.t 50) (.t 51), (some (49, true))⟩), (7, ⟨(some 53), .ld none (.t 52), (some (49, true))⟩), (8, ⟨(some 54), .mv (.t 0), (some (49, true))⟩), (9, ⟨(some 55), .mv (.t 10), (some (49, true))⟩), (10, ⟨(some 56), .ixs 1 (.t 54) (.t 55), (some (49, true))⟩), (11, ⟨(some 57), .ld none (.t 56), (some (49, true))⟩),
 (12, ⟨(some 58), .call 267 [(.t 53), (.t 57)], (some (49, true))⟩), (13, W1 59 (.pick (.t 49) (.t 58) (.c (.bool false))))] [[], [], [0, 1], [2], [3], [3], [4, 5, 3], [6, 3], [3], [3], [8, 9, 3], [10, 3], [7, 11, 3, 3], [3, 12]] 0) (.cond (.t 59) (.skip) (.exit 4))) k268_2

def k268_4 : ACode := .seq (.region [W1 79 (.mv (.t 9)), W1 80 (.bin .add (.t 79) (.c (.int .i64 1))), W1 9 (.mv (.t 80))]) (.region [W1 81 (.mv (.t 10)), W1 82 (.bin .sub (.t 81) (.c (.int .i64 1))), W1 10 (.mv (.t 82))])

def k268_5 : ACode := .seq (.drawn [(4, W1 69 (.mv (.t 0))), (5, W1 70 (.mv (.t 10))), (6, W1 71 (.ixs 1 (.t 69) (.t 70))), (7, W1 72 (.ld none (.t 71))), (8, W1 73 (.mv (.t 0))), (9, W1 74 (.mv (.t 9))), (10, W1 75 (.ixs 1 (.t 73) (.t 74))), (11, W1 76 (.ld none (.t 75))), (0, W1 65 (.mv (.t 0))), (1, W1 66 (.mv (.t 9))), (12, W1 77 (.ixs 1 (.t 65) (.t 66))), (13, ⟨none, .st 1 (.t 77) (.t 72), none⟩), (2, W1 67 (.mv (.t 0))), (3, W1 68 (.mv (.t 10))), (14, W1 78 (.ixs 1 (.t 67) (.t 68))), (15, ⟨none, .st 1 (.t 78) (.t 76), none⟩)]
 [[], [], [], [], [], [], [4, 5], [6], [], [], [8, 9], [10], [0, 1, 0, 1, 4, 5, 6, 7, 11], [12, 7, 0, 1, 4, 5, 6, 7, 11], [2, 3, 0, 1, 2, 3, 4, 5, 6, 7, 8, 9, 10, 11, 12, 13], [14, 11, 13, 0, 1, 2, 3, 4, 5, 6, 7, 8, 9, 10, 11, 12, 13]] 0) k268_4

def k268_6 : ACode := .seq (.seq (.region [W1 62 (.mv (.t 9)), W1 63 (.mv (.t 10)), W1 64 (.bin .gtr (.t 62) (.t 63))]) (.cond (.t 64) (.exit 0) (.skip))) k268_5

def b268_7 : ACode := .block 1 ( .seq (.block 2 ( .loop b268_1)) (.seq (.block 4 ( .loop b268_3)) k268_6))

def k268_8 : ACode := .seq (.block 0 ( .loop b268_7)) (.seq (.region [W1 83 (.mv (.t 9)), W1 8 (.mv (.t 83))]) (.ret))

def k268_9 : ACode := .seq (.region [W1 25 (.mv (.t 1)), W1 26 (.bin .add (.t 25) (.c (.int .i64 1))), W1 27 (.mv (.t 2)), W1 28 (.bin .sub (.t 27) (.c (.int .i64 1))), W1 9 (.mv (.t 26)), W1 10 (.mv (.t 28))]) k268_8

def k268_10 : ACode := .seq (.drawn [(4, W1 15 (.mv (.t 0))), (5, W1 16 (.mv (.t 3))), (6, W1 17 (.ixs 1 (.t 15) (.t 16))), (7, W1 18 (.ld none (.t 17))), (8, W1 19 (.mv (.t 0))), (9, W1 20 (.mv (.t 1))), (10, W1 21 (.ixs 1 (.t 19) (.t 20))), (11, W1 22 (.ld none (.t 21))), (0, W1 11 (.mv (.t 0))), (1, W1 12 (.mv (.t 1))), (12, W1 23 (.ixs 1 (.t 11) (.t 12))), (13, ⟨none, .st 1 (.t 23) (.t 18), none⟩), (2, W1 13 (.mv (.t 0))), (3, W1 14 (.mv (.t 3))), (14, W1 24 (.ixs 1 (.t 13) (.t 14))), (15, ⟨none, .st 1 (.t 24) (.t 22), none⟩)]
 [[], [], [], [], [], [], [4, 5], [6], [], [], [8, 9], [10], [0, 1, 0, 1, 4, 5, 6, 7, 11], [12, 7, 0, 1, 4, 5, 6, 7, 11], [2, 3, 0, 1, 2, 3, 4, 5, 6, 7, 8, 9, 10, 11, 12, 13], [14, 11, 13, 0, 1, 2, 3, 4, 5, 6, 7, 8, 9, 10, 11, 12, 13]] 0) k268_9

def c268 : ACode := .seq (.region [W1 8 (.mv (.c (.int .i64 0)))]) k268_10
theorem ok268 : fnOk Tryz.prog 268 c268 84 [.t 8] = true := by kernel_rfl

def k269_0 : ACode := .block 1 ( .region [W1 44 (.mv (.t 10)), W1 45 (.bin .add (.t 44) (.c (.int .i64 1))), W1 10 (.mv (.t 45))])

def b269_1 : ACode := .seq (.seq (.drawn [(0, W1 30 (.mv (.t 10))), (1, W1 31 (.mv (.t 11))), (2, W1 32 (.bin .leq (.t 30) (.t 31))), (3, W1 33 (.mv (.t 32))), (4, ⟨(some 34), .mv (.t 0), (some (33, true))⟩), (5, ⟨(some 35), .mv (.t 10), (some (33, true))⟩), (6, ⟨(some 36), .ixs 1 (.t 34) (.t 35), (some (33, true))⟩), (7, ⟨(some 37), .ld none (.t 36), (some (33, true))⟩), (8, ⟨(some 38), .mv (.t 0), (some (33, true))⟩), (9, ⟨(some 39), .mv (.t 1), (some (33, true))⟩), (10, ⟨(some 40), .ixs 1 (.t 38) (.t 39), (some (33, true))⟩), (11, ⟨(some 41), .ld none (.t 40), (some (33, true))⟩),
 (12, ⟨(some 42), .call 267 [(.t 37), (.t 41)], (some (33, true))⟩), (13, W1 43 (.pick (.t 33) (.t 42) (.c (.bool false))))] [[], [], [0, 1], [2], [3], [3], [4, 5, 3], [6, 3], [3], [3], [8, 9, 3], [10, 3], [7, 11, 3, 3], [3, 12]] 0) (.cond (.t 43) (.skip) (.exit 0))) k269_0

def k269_2 : ACode := .block 3 ( .region [W1 61 (.mv (.t 11)), W1 62 (.bin .sub (.t 61) (.c (.int .i64 1))), W1 11 (.mv (.t 62))])

def b269_3 : ACode := .seq (.seq (.drawn [(0, W1 46 (.mv (.t 10))), (1, W1 47 (.mv (.t 11))), (2, W1 48 (.bin .leq (.t 46) (.t 47))), (3, W1 49 (.mv (.t 48))), (4, ⟨(some 50), .mv (.t 0), (some (49, true))⟩), (5, ⟨(some 51), .mv (.t 11), (some (49, true))⟩), (6, ⟨(some 52), .ixs 1 (.t 50) (.t 51), (some (49, true))⟩), (7, ⟨(some 53), .ld none (.t 52), (some (49, true))⟩), (8, ⟨(some 54), .mv (.t 0), (some (49, true))⟩), (9, ⟨(some 55), .mv (.t 1), (some (49, true))⟩), (10, ⟨(some 56), .ixs 1 (.t 54) (.t 55), (some (49, true))⟩), (11, ⟨(some 57), .ld none (.t 56), (some (49, true))⟩),
 (12, ⟨(some 58), .call 267 [(.t 53), (.t 57)], (some (49, true))⟩), (13, ⟨(some 59), .un .not (.t 58), (some (49, true))⟩), (14, W1 60 (.pick (.t 49) (.t 59) (.c (.bool false))))] [[], [], [0, 1], [2], [3], [3], [4, 5, 3], [6, 3], [3], [3], [8, 9, 3], [10, 3], [7, 11, 3, 3], [12, 3], [3, 13]] 0) (.cond (.t 60) (.skip) (.exit 2))) k269_2

def k269_4 : ACode := .seq (.region [W1 80 (.mv (.t 11)), W1 8 (.mv (.t 80)), W1 9 (.mv (.c (.bool true)))]) (.ret)

def k269_5 : ACode := .seq (.drawn [(4, W1 70 (.mv (.t 0))), (5, W1 71 (.mv (.t 1))), (6, W1 72 (.ixs 1 (.t 70) (.t 71))), (7, W1 73 (.ld none (.t 72))), (8, W1 74 (.mv (.t 0))), (9, W1 75 (.mv (.t 11))), (10, W1 76 (.ixs 1 (.t 74) (.t 75))), (11, W1 77 (.ld none (.t 76))), (0, W1 66 (.mv (.t 0))), (1, W1 67 (.mv (.t 11))), (12, W1 78 (.ixs 1 (.t 66) (.t 67))), (13, ⟨none, .st 1 (.t 78) (.t 73), none⟩), (2, W1 68 (.mv (.t 0))), (3, W1 69 (.mv (.t 1))), (14, W1 79 (.ixs 1 (.t 68) (.t 69))), (15, ⟨none, .st 1 (.t 79) (.t 77), none⟩)]
 [[], [], [], [], [], [], [4, 5], [6], [], [], [8, 9], [10], [0, 1, 0, 1, 4, 5, 6, 7, 11], [12, 7, 0, 1, 4, 5, 6, 7, 11], [2, 3, 0, 1, 2, 3, 4, 5, 6, 7, 8, 9, 10, 11, 12, 13], [14, 11, 13, 0, 1, 2, 3, 4, 5, 6, 7, 8, 9, 10, 11, 12, 13]] 0) k269_4

def k269_6 : ACode := .block 7 ( .region [W1 113 (.mv (.t 10)), W1 114 (.bin .add (.t 113) (.c (.int .i64 1))), W1 10 (.mv (.t 114))])

def b269_7 : ACode := .seq (.seq (.drawn [(0, W1 99 (.mv (.t 10))), (1, W1 100 (.mv (.t 11))), (2, W1 101 (.bin .leq (.t 99) (.t 100))), (3, W1 102 (.mv (.t 101))), (4, ⟨(some 103), .mv (.t 0), (some (102, true))⟩), (5, ⟨(some 104), .mv (.t 10), (some (102, true))⟩), (6, ⟨(some 105), .ixs 1 (.t 103) (.t 104), (some (102, true))⟩), (7, ⟨(some 106), .ld none (.t 105), (some (102, true))⟩), (8, ⟨(some 107), .mv (.t 0), (some (102, true))⟩), (9, ⟨(some 108), .mv (.t 1), (some (102, true))⟩), (10, ⟨(some 109), .ixs 1 (.t 107) (.t 108), (some (102, true))⟩),
 (11, ⟨(some 110), .ld none (.t 109), (some (102, true))⟩), (12, ⟨(some 111), .call 267 [(.t 106), (.t 110)], (some (102, true))⟩), (13, W1 112 (.pick (.t 102) (.t 111) (.c (.bool false))))] [[], [], [0, 1], [2], [3], [3], [4, 5, 3], [6, 3], [3], [3], [8, 9, 3], [10, 3], [7, 11, 3, 3], [3, 12]] 0) (.cond (.t 112) (.skip) (.exit 6))) k269_6

def k269_8 : ACode := .block 9 ( .region [W1 130 (.mv (.t 11)), W1 131 (.bin .sub (.t 130) (.c (.int .i64 1))), W1 11 (.mv (.t 131))])

def b269_9 : ACode := .seq (.seq (.drawn [(0, W1 115 (.mv (.t 10))), (1, W1 116 (.mv (.t 11))), (2, W1 117 (.bin .leq (.t 115) (.t 116))), (3, W1 118 (.mv (.t 117))), (4, ⟨(some 119), .mv (.t 0), (some (118, true))⟩), (5, ⟨(some 120), .mv (.t 11), (some (118, true))⟩), (6, ⟨(some 121), .ixs 1 (.t 119) (.t 120), (some (118, true))⟩), (7, ⟨(some 122), .ld none (.t 121), (some (118, true))⟩), (8, ⟨(some 123), .mv (.t 0), (some (118, true))⟩), (9, ⟨(some 124), .mv (.t 1), (some (118, true))⟩), (10, ⟨(some 125), .ixs 1 (.t 123) (.t 124), (some (118, true))⟩),
 (11, ⟨(some 126), .ld none (.t 125), (some (118, true))⟩), (12, ⟨(some 127), .call 267 [(.t 122), (.t 126)], (some (118, true))⟩), (13, ⟨(some 128), .un .not (.t 127), (some (118, true))⟩), (14, W1 129 (.pick (.t 118) (.t 128) (.c (.bool false))))] [[], [], [0, 1], [2], [3], [3], [4, 5, 3], [6, 3], [3], [3], [8, 9, 3], [10, 3], [7, 11, 3, 3], [12, 3], [3, 13]] 0) (.cond (.t 129) (.skip) (.exit 8))) k269_8

def k269_10 : ACode := .seq (.region [W1 149 (.mv (.t 10)), W1 150 (.bin .add (.t 149) (.c (.int .i64 1))), W1 10 (.mv (.t 150))]) (.region [W1 151 (.mv (.t 11)), W1 152 (.bin .sub (.t 151) (.c (.int .i64 1))), W1 11 (.mv (.t 152))])

def k269_11 : ACode := .seq (.drawn [(4, W1 139 (.mv (.t 0))), (5, W1 140 (.mv (.t 11))), (6, W1 141 (.ixs 1 (.t 139) (.t 140))), (7, W1 142 (.ld none (.t 141))), (8, W1 143 (.mv (.t 0))), (9, W1 144 (.mv (.t 10))), (10, W1 145 (.ixs 1 (.t 143) (.t 144))), (11, W1 146 (.ld none (.t 145))), (0, W1 135 (.mv (.t 0))), (1, W1 136 (.mv (.t 10))), (12, W1 147 (.ixs 1 (.t 135) (.t 136))), (13, ⟨none, .st 1 (.t 147) (.t 142), none⟩), (2, W1 137 (.mv (.t 0))), (3, W1 138 (.mv (.t 11))), (14, W1 148 (.ixs 1 (.t 137) (.t 138))), (15, ⟨none, .st 1 (.t 148) (.t 146), none⟩)]
 [[], [], [], [], [], [], [4, 5], [6], [], [], [8, 9], [10], [0, 1, 0, 1, 4, 5, 6, 7, 11], [12, 7, 0, 1, 4, 5, 6, 7, 11], [2, 3, 0, 1, 2, 3, 4, 5, 6, 7, 8, 9, 10, 11, 12, 13], [14, 11, 13, 0, 1, 2, 3, 4, 5, 6, 7, 8, 9, 10, 11, 12, 13]] 0) k269_10

def k269_12 : ACode := .seq (.seq (.region [W1 132 (.mv (.t 10)), W1 133 (.mv (.t 11)), W1 134 (.bin .gtr (.t 132) (.t 133))]) (.cond (.t 134) (.exit 4) (.skip))) k269_11

def b269_13 : ACode := .block 5 ( .seq (.block 6 ( .loop b269_7)) (.seq (.block 8 ( .loop b269_9)) k269_12))

def k269_14 : ACode := .seq (.region [W1 167 (.mv (.t 11)), W1 8 (.mv (.t 167)), W1 9 (.mv (.c (.bool false)))]) (.ret)

def k269_15 : ACode := .seq (.drawn [(4, W1 157 (.mv (.t 0))), (5, W1 158 (.mv (.t 1))), (6, W1 159 (.ixs 1 (.t 157) (.t 158))), (7, W1 160 (.ld none (.t 159))), (8, W1 161 (.mv (.t 0))), (9, W1 162 (.mv (.t 11))), (10, W1 163 (.ixs 1 (.t 161) (.t 162))), (11, W1 164 (.ld none (.t 163))), (0, W1 153 (.mv (.t 0))), (1, W1 154 (.mv (.t 11))), (12, W1 165 (.ixs 1 (.t 153) (.t 154))), (13, ⟨none, .st 1 (.t 165) (.t 160), none⟩), (2, W1 155 (.mv (.t 0))), (3, W1 156 (.mv (.t 1))), (14, W1 166 (.ixs 1 (.t 155) (.t 156))), (15, ⟨none, .st 1 (.t 166) (.t 164), none⟩)]
 [[], [], [], [], [], [], [4, 5], [6], [], [], [8, 9], [10], [0, 1, 0, 1, 4, 5, 6, 7, 11], [12, 7, 0, 1, 4, 5, 6, 7, 11], [2, 3, 0, 1, 2, 3, 4, 5, 6, 7, 8, 9, 10, 11, 12, 13], [14, 11, 13, 0, 1, 2, 3, 4, 5, 6, 7, 8, 9, 10, 11, 12, 13]] 0) k269_14

def k269_16 : ACode := .seq (.region [W1 97 (.mv (.t 11)), W1 98 (.bin .sub (.t 97) (.c (.int .i64 1))), W1 11 (.mv (.t 98))]) (.seq (.block 4 ( .loop b269_13)) k269_15)

def k269_17 : ACode := .seq (.region [W1 95 (.mv (.t 10)), W1 96 (.bin .add (.t 95) (.c (.int .i64 1))), W1 10 (.mv (.t 96))]) k269_16

def k269_18 : ACode := .seq (.drawn [(4, W1 85 (.mv (.t 0))), (5, W1 86 (.mv (.t 11))), (6, W1 87 (.ixs 1 (.t 85) (.t 86))), (7, W1 88 (.ld none (.t 87))), (8, W1 89 (.mv (.t 0))), (9, W1 90 (.mv (.t 10))), (10, W1 91 (.ixs 1 (.t 89) (.t 90))), (11, W1 92 (.ld none (.t 91))), (0, W1 81 (.mv (.t 0))), (1, W1 82 (.mv (.t 10))), (12, W1 93 (.ixs 1 (.t 81) (.t 82))), (13, ⟨none, .st 1 (.t 93) (.t 88), none⟩), (2, W1 83 (.mv (.t 0))), (3, W1 84 (.mv (.t 11))), (14, W1 94 (.ixs 1 (.t 83) (.t 84))), (15, ⟨none, .st 1 (.t 94) (.t 92), none⟩)]
 [[], [], [], [], [], [], [4, 5], [6], [], [], [8, 9], [10], [0, 1, 0, 1, 4, 5, 6, 7, 11], [12, 7, 0, 1, 4, 5, 6, 7, 11], [2, 3, 0, 1, 2, 3, 4, 5, 6, 7, 8, 9, 10, 11, 12, 13], [14, 11, 13, 0, 1, 2, 3, 4, 5, 6, 7, 8, 9, 10, 11, 12, 13]] 0) k269_17

def k269_19 : ACode := .seq (.seq (.region [W1 63 (.mv (.t 10)), W1 64 (.mv (.t 11)), W1 65 (.bin .gtr (.t 63) (.t 64))]) (.cond (.t 65) k269_5 (.skip))) k269_18

def k269_20 : ACode := .seq (.block 0 ( .loop b269_1)) (.seq (.block 2 ( .loop b269_3)) k269_19)

def k269_21 : ACode := .seq (.region [W1 26 (.mv (.t 1)), W1 27 (.bin .add (.t 26) (.c (.int .i64 1))), W1 28 (.mv (.t 2)), W1 29 (.bin .sub (.t 28) (.c (.int .i64 1))), W1 10 (.mv (.t 27)), W1 11 (.mv (.t 29))]) k269_20

def k269_22 : ACode := .seq (.drawn [(4, W1 16 (.mv (.t 0))), (5, W1 17 (.mv (.t 3))), (6, W1 18 (.ixs 1 (.t 16) (.t 17))), (7, W1 19 (.ld none (.t 18))), (8, W1 20 (.mv (.t 0))), (9, W1 21 (.mv (.t 1))), (10, W1 22 (.ixs 1 (.t 20) (.t 21))), (11, W1 23 (.ld none (.t 22))), (0, W1 12 (.mv (.t 0))), (1, W1 13 (.mv (.t 1))), (12, W1 24 (.ixs 1 (.t 12) (.t 13))), (13, ⟨none, .st 1 (.t 24) (.t 19), none⟩), (2, W1 14 (.mv (.t 0))), (3, W1 15 (.mv (.t 3))), (14, W1 25 (.ixs 1 (.t 14) (.t 15))), (15, ⟨none, .st 1 (.t 25) (.t 23), none⟩)]
 [[], [], [], [], [], [], [4, 5], [6], [], [], [8, 9], [10], [0, 1, 0, 1, 4, 5, 6, 7, 11], [12, 7, 0, 1, 4, 5, 6, 7, 11], [2, 3, 0, 1, 2, 3, 4, 5, 6, 7, 8, 9, 10, 11, 12, 13], [14, 11, 13, 0, 1, 2, 3, 4, 5, 6, 7, 8, 9, 10, 11, 12, 13]] 0) k269_21

def c269 : ACode := .seq (.region [W1 8 (.mv (.c (.int .i64 0))), W1 9 (.mv (.c (.bool false)))]) k269_22
theorem ok269 : fnOk Tryz.prog 269 c269 168 [.t 8, .t 9] = true := by kernel_rfl

def k270_0 : ACode := .seq (.region [W1 5 (.mv (.t 0)), W1 6 (.bin .shr (.t 5) (.c (.int .u64 16))), W1 0 (.mv (.t 6))]) (.region [W1 2 (.mv (.c (.int .i64 16)))])

def k270_1 : ACode := .seq (.region [W1 9 (.mv (.t 0)), W1 10 (.bin .shr (.t 9) (.c (.int .u64 8))), W1 0 (.mv (.t 10))]) (.region [W1 11 (.mv (.t 2)), W1 12 (.bin .add (.t 11) (.c (.int .i64 8))), W1 2 (.mv (.t 12))])

def k270_2 : ACode := .seq (.region [W1 13 (.mv (.t 2)), W1 14 (.mv (.t 0)), W1 15 (.cvt .u8 (.t 14)),
 W1 16 (.ixstr (.c (.str [0, 1, 2, 2, 3, 3, 3, 3, 4, 4, 4, 4, 4, 4, 4, 4, 5, 5, 5, 5, 5, 5, 5, 5, 5, 5, 5, 5, 5, 5, 5, 5, 6, 6, 6, 6, 6, 6, 6, 6, 6, 6, 6, 6, 6, 6, 6, 6, 6, 6, 6, 6, 6, 6, 6, 6, 6, 6, 6, 6, 6, 6, 6, 6, 7, 7, 7, 7, 7, 7, 7, 7, 7, 7, 7, 7, 7, 7, 7, 7, 7, 7, 7, 7, 7, 7, 7, 7, 7, 7, 7, 7, 7, 7, 7, 7, 7, 7, 7, 7, 7, 7, 7, 7, 7, 7, 7, 7, 7, 7, 7, 7, 7, 7, 7, 7, 7, 7, 7, 7, 7, 7, 7, 7, 7, 7, 7, 7, 8, 8, 8, 8, 8, 8, 8, 8, 8, 8, 8, 8, 8, 8, 8, 8, 8, 8, 8, 8, 8, 8, 8, 8, 8, 8, 8, 8, 8, 8, 8, 8, 8, 8, 8, 8, 8, 8, 8, 8, 8, 8, 8, 8, 8, 8, 8, 8, 8, 8, 8, 8, 8, 8, 8, 8, 8, 8, 8, 8, 8, 8, 8, 8, 8, 8, 8, 8, 8, 8, 8, 8, 8, 8, 8, 8, 8, 8, 8, 8, 8, 8, 8, 8, 8, 8, 8, 8, 8, 8, 8, 8, 8, 8, 8, 8, 8, 8, 8, 8, 8, 8, 8, 8, 8, 8, 8, 8, 8, 8, 8, 8, 8, 8, 8, 8, 8, 8, 8, 8, 8, 8, 8, 8, 8, 8, 8, 8])) (.t 15)),
 W1 17 (.cvt .i64 (.t 16)), W1 18 (.bin .add (.t 13) (.t 17)), W1 2 (.mv (.t 18))]) (.ret)

def k270_3 : ACode := .seq (.seq (.region [W1 7 (.mv (.t 0)), W1 8 (.bin .geq (.t 7) (.c (.int .u32 256)))]) (.cond (.t 8) k270_1 (.skip))) k270_2

def k270_4 : ACode := .seq (.seq (.region [W1 3 (.mv (.t 0)), W1 4 (.bin .geq (.t 3) (.c (.int .u32 65536)))]) (.cond (.t 4) k270_0 (.skip))) k270_3

def c270 : ACode := .seq (.region [W1 2 (.mv (.c (.int .i64 0)))]) k270_4
theorem ok270 : fnOk Tryz.prog 270 c270 19 [.t 2] = true := by kernel_rfl

def k271_0 : ACode := .seq (.region [W1 5 (.mv (.t 0)), W1 6 (.bin .shr (.t 5) (.c (.int .u64 32))), W1 0 (.mv (.t 6))]) (.region [W1 2 (.mv (.c (.int .i64 32)))])

def k271_1 : ACode := .seq (.region [W1 9 (.mv (.t 0)), W1 10 (.bin .shr (.t 9) (.c (.int .u64 16))), W1 0 (.mv (.t 10))]) (.region [W1 11 (.mv (.t 2)), W1 12 (.bin .add (.t 11) (.c (.int .i64 16))), W1 2 (.mv (.t 12))])

def k271_2 : ACode := .seq (.region [W1 15 (.mv (.t 0)), W1 16 (.bin .shr (.t 15) (.c (.int .u64 8))), W1 0 (.mv (.t 16))]) (.region [W1 17 (.mv (.t 2)), W1 18 (.bin .add (.t 17) (.c (.int .i64 8))), W1 2 (.mv (.t 18))])

def k271_3 : ACode := .seq (.region [W1 19 (.mv (.t 2)), W1 20 (.mv (.t 0)), W1 21 (.cvt .u8 (.t 20)),
 W1 22 (.ixstr (.c (.str [0, 1, 2, 2, 3, 3, 3, 3, 4, 4, 4, 4, 4, 4, 4, 4, 5, 5, 5, 5, 5, 5, 5, 5, 5, 5, 5, 5, 5, 5, 5, 5, 6, 6, 6, 6, 6, 6, 6, 6, 6, 6, 6, 6, 6, 6, 6, 6, 6, 6, 6, 6, 6, 6, 6, 6, 6, 6, 6, 6, 6, 6, 6, 6, 7, 7, 7, 7, 7, 7, 7, 7, 7, 7, 7, 7, 7, 7, 7, 7, 7, 7, 7, 7, 7, 7, 7, 7, 7, 7, 7, 7, 7, 7, 7, 7, 7, 7, 7, 7, 7, 7, 7, 7, 7, 7, 7, 7, 7, 7, 7, 7, 7, 7, 7, 7, 7, 7, 7, 7, 7, 7, 7, 7, 7, 7, 7, 7, 8, 8, 8, 8, 8, 8, 8, 8, 8, 8, 8, 8, 8, 8, 8, 8, 8, 8, 8, 8, 8, 8, 8, 8, 8, 8, 8, 8, 8, 8, 8, 8, 8, 8, 8, 8, 8, 8, 8, 8, 8, 8, 8, 8, 8, 8, 8, 8, 8, 8, 8, 8, 8, 8, 8, 8, 8, 8, 8, 8, 8, 8, 8, 8, 8, 8, 8, 8, 8, 8, 8, 8, 8, 8, 8, 8, 8, 8, 8, 8, 8, 8, 8, 8, 8, 8, 8, 8, 8, 8, 8, 8, 8, 8, 8, 8, 8, 8, 8, 8, 8, 8, 8, 8, 8, 8, 8, 8, 8, 8, 8, 8, 8, 8, 8, 8, 8, 8, 8, 8, 8, 8, 8, 8, 8, 8, 8, 8])) (.t 21)),
 W1 23 (.cvt .i64 (.t 22)), W1 24 (.bin .add (.t 19) (.t 23)), W1 2 (.mv (.t 24))]) (.ret)

def k271_4 : ACode := .seq (.seq (.region [W1 13 (.mv (.t 0)), W1 14 (.bin .geq (.t 13) (.c (.int .u64 256)))]) (.cond (.t 14) k271_2 (.skip))) k271_3

def k271_5 : ACode := .seq (.seq (.region [W1 7 (.mv (.t 0)), W1 8 (.bin .geq (.t 7) (.c (.int .u64 65536)))]) (.cond (.t 8) k271_1 (.skip))) k271_4

def k271_6 : ACode := .seq (.seq (.region [W1 3 (.mv (.t 0)), W1 4 (.bin .geq (.t 3) (.c (.int .u64 4294967296)))]) (.cond (.t 4) k271_0 (.skip))) k271_5

def c271 : ACode := .seq (.region [W1 2 (.mv (.c (.int .i64 0)))]) k271_6
theorem ok271 : fnOk Tryz.prog 271 c271 25 [.t 2] = true := by kernel_rfl

def k277_0 : ACode := .cond (.t 16) (.seq (.region [W1 17 (.mv (.t 5)), W1 4 (.mv (.t 17))]) (.ret)) (.skip)

def k277_1 : ACode := .seq (.region [W1 11 (.mv (.t 1)), W1 12 (.mv (.t 0)), W1 13 (.mv (.t 5)), W1 14 (.ixs 5 (.t 12) (.t 13)), W1 15 (.ld (some 5) (.t 14)), W1 16 (.callv (.t 11) [(.t 15)])]) k277_0

def k277_2 : ACode := .seq (.block 1 ( .seq (.region [W1 10 (.mv (.t 8)), W1 5 (.mv (.t 10))]) k277_1)) (.region [W1 18 (.bin .add (.t 8) (.c (.int .i64 1))), W1 8 (.mv (.t 18))])

def b277_3 : ACode := .seq (.region [W1 9 (.bin .lss (.t 8) (.t 7))]) (.seq (.cond (.t 9) (.skip) (.exit 0)) k277_2)

def k277_4 : ACode := .seq (.seq (.region [W1 6 (.mv (.t 0)), W1 7 (.len false (.t 6)), W1 8 (.mv (.c (.int .i64 0)))]) (.block 0 ( .loop b277_3))) (.seq (.region [W1 4 (.mv (.c (.int .i64 (-1))))]) (.ret))

def c277 : ACode := .seq (.region [W1 4 (.mv (.c (.int .i64 0)))]) k277_4
theorem ok277 : fnOk Tryz.prog 277 c277 19 [.t 4] = true := by kernel_rfl

def c278 : ACode := .seq (.region [W1 4 (.mv (.c (.int .i64 0)))]) (.seq (.wild) (.ret))
theorem ok278 : fnOk Tryz.prog 278 c278 8 [.t 4] = true := by kernel_rfl

def k281_0 : ACode := .seq (.block 1 ( .region [W1 23 (.mv (.t 8)), W1 24 (.bin .mul (.t 23) (.c (.int .u32 16777619))), W1 25 (.mv (.t 0)), W1 26 (.mv (.t 9)), W1 27 (.ixstr (.t 25) (.t 26)), W1 28 (.cvt .u32 (.t 27)), W1 29 (.bin .add (.t 24) (.t 28)), W1 8 (.mv (.t 29))])) (.region [W1 21 (.mv (.t 9)), W1 22 (.bin .add (.t 21) (.c (.int .i64 1))), W1 9 (.mv (.t 22))])

def b281_1 : ACode := .seq (.seq (.region [W1 18 (.mv (.t 9)), W1 19 (.mv (.t 7)), W1 20 (.bin .lss (.t 18) (.t 19))]) (.cond (.t 20) (.skip) (.exit 0))) k281_0

def k281_2 : ACode := .cond (.t 39) (.seq (.region [W1 4 (.mv (.c (.int .i64 0)))]) (.ret)) (.skip)

def k281_3 : ACode := .seq (.region [W1 78 (.mv (.t 10)), W1 79 (.mv (.t 7)), W1 80 (.bin .sub (.t 78) (.t 79)), W1 4 (.mv (.t 80))]) (.ret)

def k281_4 : ACode := .seq (.region [W1 65 (.mv (.t 8)), W1 66 (.mv (.t 5)), W1 67 (.bin .eql (.t 65) (.t 66)), W1 68 (.mv (.t 67)), ⟨(some 69), .mv (.t 0), (some (68, true))⟩, ⟨(some 70), .mv (.t 10), (some (68, true))⟩, ⟨(some 71), .mv (.t 7), (some (68, true))⟩, ⟨(some 72), .bin .sub (.t 70) (.t 71), (some (68, true))⟩, ⟨(some 73), .mv (.t 10), (some (68, true))⟩, ⟨(some 74), .sstr (.t 69) (some (.t 72)) (some (.t 73)), (some (68, true))⟩, ⟨(some 75), .mv (.t 1), (some (68, true))⟩, ⟨(some 76), .sbin .eql (.t 74) (.t 75), (some (68, true))⟩,
 W1 77 (.pick (.t 68) (.t 76) (.c (.bool false)))]) (.cond (.t 77) k281_3 (.skip))

def k281_5 : ACode := .seq (.region [W1 63 (.mv (.t 10)), W1 64 (.bin .add (.t 63) (.c (.int .i64 1))), W1 10 (.mv (.t 64))]) k281_4

def k281_6 : ACode := .seq (.region [W1 53 (.mv (.t 8)), W1 54 (.mv (.t 6)), W1 55 (.mv (.t 0)), W1 56 (.mv (.t 10)), W1 57 (.mv (.t 7)), W1 58 (.bin .sub (.t 56) (.t 57)), W1 59 (.ixstr (.t 55) (.t 58)), W1 60 (.cvt .u32 (.t 59)), W1 61 (.bin .mul (.t 54) (.t 60)), W1 62 (.bin .sub (.t 53) (.t 61)), W1 8 (.mv (.t 62))]) k281_5

def k281_7 : ACode := .seq (.region [W1 47 (.mv (.t 8)), W1 48 (.mv (.t 0)), W1 49 (.mv (.t 10)), W1 50 (.ixstr (.t 48) (.t 49)), W1 51 (.cvt .u32 (.t 50)), W1 52 (.bin .add (.t 47) (.t 51)), W1 8 (.mv (.t 52))]) k281_6

def k281_8 : ACode := .block 3 ( .seq (.region [W1 45 (.mv (.t 8)), W1 46 (.bin .mul (.t 45) (.c (.int .u32 16777619))), W1 8 (.mv (.t 46))]) k281_7)

def b281_9 : ACode := .seq (.seq (.region [W1 41 (.mv (.t 10)), W1 42 (.mv (.t 0)), W1 43 (.len true (.t 42)), W1 44 (.bin .lss (.t 41) (.t 43))]) (.cond (.t 44) (.skip) (.exit 2))) k281_8

def k281_10 : ACode := .seq (.seq (.region [W1 40 (.mv (.t 7)), W1 10 (.mv (.t 40))]) (.block 2 ( .loop b281_9))) (.seq (.region [W1 4 (.mv (.c (.int .i64 (-1))))]) (.ret))

def k281_11 : ACode := .seq (.seq (.region [W1 30 (.mv (.t 8)), W1 31 (.mv (.t 5)), W1 32 (.bin .eql (.t 30) (.t 31)), W1 33 (.mv (.t 32)), ⟨(some 34), .mv (.t 0), (some (33, true))⟩, ⟨(some 35), .mv (.t 7), (some (33, true))⟩, ⟨(some 36), .sstr (.t 34) none (some (.t 35)), (some (33, true))⟩, ⟨(some 37), .mv (.t 1), (some (33, true))⟩, ⟨(some 38), .sbin .eql (.t 36) (.t 37), (some (33, true))⟩, W1 39 (.pick (.t 33) (.t 38) (.c (.bool false)))]) k281_2) k281_10

def k281_12 : ACode := .seq (.seq (.region [W1 9 (.mv (.c (.int .i64 0)))]) (.block 0 ( .loop b281_1))) k281_11

def k281_13 : ACode := .seq (.region [W1 16 (.mv (.t 1)), W1 17 (.len true (.t 16)), W1 7 (.mv (.t 17))]) (.seq (.region [W1 8 (.mv (.c (.int .u32 0)))]) k281_12)

def k281_14 : ACode := .seq (.region [W1 12 (.mv (.t 1)), W1 13 (.call 291 [(.t 12)]), W1 11 (.mv (.t 13)), W1 14 (.ext (.t 11) 0), W1 15 (.ext (.t 11) 1), W1 5 (.mv (.t 14)), W1 6 (.mv (.t 15))]) k281_13

def c281 : ACode := .seq (.region [W1 4 (.mv (.c (.int .i64 0)))]) k281_14
theorem ok281 : fnOk Tryz.prog 281 c281 81 [.t 4] = true := by kernel_rfl

def k282_0 : ACode := .seq (.region [W1 5 (.mv (.t 0)), W1 6 (.mv (.t 1)), W1 7 (.call 278 [(.t 5), (.t 6)]), W1 4 (.mv (.t 7))]) (.ret)

def c282 : ACode := .seq (.region [W1 4 (.mv (.c (.int .i64 0)))]) k282_0
theorem ok282 : fnOk Tryz.prog 282 c282 8 [.t 4] = true := by kernel_rfl

def k283_0 : ACode := .cond (.t 10) (.seq (.region [W1 2 (.mv (.c (.bool true)))]) (.ret)) (.skip)

def k283_1 : ACode := .seq (.region [W1 11 (.mv (.t 0)), W1 12 (.bin .lss (.c (.int .i32 57343)) (.t 11)), W1 13 (.mv (.t 12)), ⟨(some 14), .mv (.t 0), (some (13, true))⟩, ⟨(some 15), .bin .leq (.t 14) (.c (.int .i32 1114111)), (some (13, true))⟩, W1 16 (.pick (.t 13) (.t 15) (.c (.bool false))), W1 10 (.mv (.t 16))]) k283_0

def k283_2 : ACode := .cond (.t 3) (.seq (.region [W1 2 (.mv (.c (.bool true)))]) (.ret)) k283_1

def k283_3 : ACode := .seq (.block 0 ( .seq (.region [W1 4 (.mv (.t 0)), W1 5 (.bin .leq (.c (.int .i32 0)) (.t 4)), W1 6 (.mv (.t 5)), ⟨(some 7), .mv (.t 0), (some (6, true))⟩, ⟨(some 8), .bin .lss (.t 7) (.c (.int .i32 55296)), (some (6, true))⟩, W1 9 (.pick (.t 6) (.t 8) (.c (.bool false))), W1 3 (.mv (.t 9))]) k283_2)) (.seq (.region [W1 2 (.mv (.c (.bool false)))]) (.ret))

def c283 : ACode := .seq (.region [W1 2 (.mv (.c (.bool false)))]) k283_3
theorem ok283 : fnOk Tryz.prog 283 c283 17 [.t 2] = true := by kernel_rfl

def k284_0 : ACode := .cond (.t 36) (.region [W1 37 (.mv (.t 9)), W1 38 (.bin .add (.t 37) (.c (.int .i64 1))), W1 9 (.mv (.t 38))]) (.skip)

def k284_1 : ACode := .seq (.drawn [(8, W1 61 (.mv (.t 0))), (9, W1 62 (.mv (.t 3))), (10, W1 63 (.mv (.t 9))), (11, W1 64 (.bin .add (.t 62) (.t 63))), (12, W1 65 (.ixs 1 (.t 61) (.t 64))), (13, W1 66 (.ld none (.t 65))), (14, W1 67 (.mv (.t 0))), (15, W1 68 (.mv (.t 3))), (16, W1 69 (.mv (.t 8))), (17, W1 70 (.bin .add (.t 68) (.t 69))), (18, W1 71 (.ixs 1 (.t 67) (.t 70))), (19, W1 72 (.ld none (.t 71))), (0, W1 53 (.mv (.t 0))), (1, W1 54 (.mv (.t 3))), (2, W1 55 (.mv (.t 8))), (3, W1 56 (.bin .add (.t 54) (.t 55))), (20, W1 73 (.ixs 1 (.t 53) (.t 56))),
 (21, ⟨none, .st 1 (.t 73) (.t 66), none⟩), (4, W1 57 (.mv (.t 0))), (5, W1 58 (.mv (.t 3))), (6, W1 59 (.mv (.t 9))), (7, W1 60 (.bin .add (.t 58) (.t 59))), (22, W1 74 (.ixs 1 (.t 57) (.t 60))), (23, ⟨none, .st 1 (.t 74) (.t 72), none⟩)]
 [[], [], [], [1, 2], [], [], [], [5, 6], [], [], [], [9, 10], [8, 11], [12], [], [], [], [15, 16], [14, 17], [18], [0, 3, 0, 1, 2, 3, 8, 9, 10, 11, 12, 13, 19], [20, 13, 0, 1, 2, 3, 8, 9, 10, 11, 12, 13, 19], [4, 7, 0, 1, 2, 3, 4, 5, 6, 7, 8, 9, 10, 11, 12, 13, 14, 15, 16, 17, 18, 19, 20, 21], [22, 19, 21, 0, 1, 2, 3, 4, 5, 6, 7, 8, 9, 10, 11, 12, 13, 14, 15, 16, 17, 18, 19, 20, 21]] 0) (.region [W1 75 (.mv (.t 9)), W1 8 (.mv (.t 75))])

def k284_2 : ACode := .seq (.seq (.drawn [(0, W1 39 (.mv (.t 0))), (1, W1 40 (.mv (.t 3))), (2, W1 41 (.mv (.t 8))), (3, W1 42 (.bin .add (.t 40) (.t 41))), (4, W1 43 (.ixs 1 (.t 39) (.t 42))), (5, W1 44 (.ld none (.t 43))), (6, W1 45 (.mv (.t 0))), (7, W1 46 (.mv (.t 3))), (8, W1 47 (.mv (.t 9))), (9, W1 48 (.bin .add (.t 46) (.t 47))), (10, W1 49 (.ixs 1 (.t 45) (.t 48))), (11, W1 50 (.ld none (.t 49))), (12, W1 51 (.call 267 [(.t 44), (.t 50)])), (13, W1 52 (.un .not (.t 51)))] [[], [], [], [1, 2], [0, 3], [4], [], [], [], [7, 8], [6, 9], [10], [5, 11], [12]] 0) (.cond (.t 52) (.ret)
 (.skip))) k284_1

def k284_3 : ACode := .seq (.seq (.drawn [(0, W1 17 (.mv (.t 9))), (1, W1 18 (.bin .add (.t 17) (.c (.int .i64 1)))), (2, W1 19 (.mv (.t 2))), (3, W1 20 (.bin .lss (.t 18) (.t 19))), (4, W1 21 (.mv (.t 20))), (5, ⟨(some 22), .mv (.t 0), (some (21, true))⟩), (6, ⟨(some 23), .mv (.t 3), (some (21, true))⟩), (7, ⟨(some 24), .mv (.t 9), (some (21, true))⟩), (8, ⟨(some 25), .bin .add (.t 23) (.t 24), (some (21, true))⟩), (9, ⟨(some 26), .ixs 1 (.t 22) (.t 25), (some (21, true))⟩), (10, ⟨(some 27), .ld none (.t 26), (some (21, true))⟩), (11, ⟨(some 28), .mv (.t 0), (some (21, true))⟩),
 (12, ⟨(some 29), .mv (.t 3), (some (21, true))⟩), (13, ⟨(some 30), .mv (.t 9), (some (21, true))⟩), (14, ⟨(some 31), .bin .add (.t 29) (.t 30), (some (21, true))⟩), (15, ⟨(some 32), .bin .add (.t 31) (.c (.int .i64 1)), (some (21, true))⟩), (16, ⟨(some 33), .ixs 1 (.t 28) (.t 32), (some (21, true))⟩), (17, ⟨(some 34), .ld none (.t 33), (some (21, true))⟩), (18, ⟨(some 35), .call 267 [(.t 27), (.t 34)], (some (21, true))⟩), (19, W1 36 (.pick (.t 21) (.t 35) (.c (.bool false))))]
 [[], [0], [], [1, 2], [3], [4], [4], [4], [6, 7, 4], [5, 8, 4], [9, 4], [4], [4], [4], [12, 13, 4], [14, 4], [11, 15, 4], [16, 4], [10, 17, 4, 4], [4, 18]] 0) k284_0) k284_2

def k284_4 : ACode := .seq (.seq (.region [W1 14 (.mv (.t 9)), W1 15 (.mv (.t 2)), W1 16 (.bin .geq (.t 14) (.t 15))]) (.cond (.t 16) (.exit 0) (.skip))) k284_3

def b284_5 : ACode := .block 1 ( .seq (.region [W1 11 (.mv (.t 8)), W1 12 (.bin .mul (.c (.int .i64 2)) (.t 11)), W1 13 (.bin .add (.t 12) (.c (.int .i64 1))), W1 9 (.mv (.t 13))]) k284_4)

def c284 : ACode := .seq (.region [W1 10 (.mv (.t 1)), W1 8 (.mv (.t 10))]) (.block 0 ( .loop b284_5))
theorem ok284 : fnOk Tryz.prog 284 c284 76 [] = true := by kernel_rfl

def k285_0 : ACode := .seq (.region [W1 3 (.mv (.t 0)), W1 4 (.cvt .u64 (.t 3)), W1 5 (.call 233 [(.t 4)]), W1 6 (.bin .shl (.c (.int .u64 1)) (.t 5)), W1 2 (.mv (.t 6))]) (.ret)

def c285 : ACode := .seq (.region [W1 2 (.mv (.c (.int .u64 0)))]) k285_0
theorem ok285 : fnOk Tryz.prog 285 c285 7 [.t 2] = true := by kernel_rfl

def k286_0 : ACode := .seq (.region [W1 30 (.mv (.t 0)), W1 31 (.nck (.t 30)), W1 32 (.ld none (.t 31)), W1 2 (.mv (.t 32))]) (.ret)

def k286_1 : ACode := .seq (.drawn [(0, W1 21 (.mv (.t 0))), (1, W1 22 (.nck (.t 21))), (2, W1 23 (.ld none (.t 22))), (3, W1 24 (.mv (.t 0))), (4, W1 25 (.nck (.t 24))), (5, W1 26 (.ld none (.t 25))), (6, W1 27 (.bin .shl (.t 26) (.c (.int .u64 17)))), (7, W1 28 (.bin .xor (.t 23) (.t 27))), (8, W1 29 (.nck (.t 21))), (9, ⟨none, .st 1 (.t 29) (.t 28), none⟩)] [[], [0], [1], [], [3], [4], [5], [2, 6], [0, 0, 1, 2, 3, 4, 5, 6, 7], [8, 7, 0, 1, 2, 3, 4, 5, 6, 7]] 0) k286_0

def k286_2 : ACode := .seq (.drawn [(0, W1 12 (.mv (.t 0))), (1, W1 13 (.nck (.t 12))), (2, W1 14 (.ld none (.t 13))), (3, W1 15 (.mv (.t 0))), (4, W1 16 (.nck (.t 15))), (5, W1 17 (.ld none (.t 16))), (6, W1 18 (.bin .shr (.t 17) (.c (.int .u64 7)))), (7, W1 19 (.bin .xor (.t 14) (.t 18))), (8, W1 20 (.nck (.t 12))), (9, ⟨none, .st 1 (.t 20) (.t 19), none⟩)] [[], [0], [1], [], [3], [4], [5], [2, 6], [0, 0, 1, 2, 3, 4, 5, 6, 7], [8, 7, 0, 1, 2, 3, 4, 5, 6, 7]] 0) k286_1

def k286_3 : ACode := .seq (.drawn [(0, W1 3 (.mv (.t 0))), (1, W1 4 (.nck (.t 3))), (2, W1 5 (.ld none (.t 4))), (3, W1 6 (.mv (.t 0))), (4, W1 7 (.nck (.t 6))), (5, W1 8 (.ld none (.t 7))), (6, W1 9 (.bin .shl (.t 8) (.c (.int .u64 13)))), (7, W1 10 (.bin .xor (.t 5) (.t 9))), (8, W1 11 (.nck (.t 3))), (9, ⟨none, .st 1 (.t 11) (.t 10), none⟩)] [[], [0], [1], [], [3], [4], [5], [2, 6], [0, 0, 1, 2, 3, 4, 5, 6, 7], [8, 7, 0, 1, 2, 3, 4, 5, 6, 7]] 0) k286_2

def c286 : ACode := .seq (.region [W1 2 (.mv (.c (.int .u64 0)))]) k286_3
theorem ok286 : fnOk Tryz.prog 286 c286 33 [.t 2] = true := by kernel_rfl

def k287_0 : ACode := .seq (.region [W1 7 (.mv (.t 0)), W1 8 (.mv (.t 1)), W1 9 (.bin .sub (.t 8) (.c (.int .i64 1))), W1 10 (.mv (.t 1)), W1 11 (.mv (.t 1)), W1 12 (.bin .add (.t 11) (.c (.int .i64 1))), W1 13 (.mv (.t 2)), W1 14 (.call 288 [(.t 7), (.t 9), (.t 10), (.t 12), (.t 13)]), W1 6 (.mv (.t 14))]) (.ret)

def c287 : ACode := .seq (.region [W1 6 (.mv (.c (.int .i64 0)))]) k287_0
theorem ok287 : fnOk Tryz.prog 287 c287 15 [.t 6] = true := by kernel_rfl

def k288_0 : ACode := .seq (.region [W1 28 (.mv (.t 0)), W1 29 (.mv (.t 1)), W1 30 (.mv (.t 2)), W1 31 (.mv (.t 4)), W1 32 (.call 292 [(.t 28), (.t 29), (.t 30), (.t 31)]), W1 27 (.mv (.t 32)), W1 33 (.ext (.t 27) 0), W1 34 (.ext (.t 27) 1), W1 1 (.mv (.t 33)), W1 2 (.mv (.t 34))]) (.seq (.region [W1 35 (.mv (.t 2)), W1 10 (.mv (.t 35))]) (.ret))

def k288_1 : ACode := .seq (.region [W1 20 (.mv (.t 0)), W1 21 (.mv (.t 2)), W1 22 (.mv (.t 3)), W1 23 (.mv (.t 4)), W1 24 (.call 292 [(.t 20), (.t 21), (.t 22), (.t 23)]), W1 19 (.mv (.t 24)), W1 25 (.ext (.t 19) 0), W1 26 (.ext (.t 19) 1), W1 2 (.mv (.t 25)), W1 3 (.mv (.t 26))]) k288_0

def k288_2 : ACode := .seq (.region [W1 12 (.mv (.t 0)), W1 13 (.mv (.t 1)), W1 14 (.mv (.t 2)), W1 15 (.mv (.t 4)), W1 16 (.call 292 [(.t 12), (.t 13), (.t 14), (.t 15)]), W1 11 (.mv (.t 16)), W1 17 (.ext (.t 11) 0), W1 18 (.ext (.t 11) 1), W1 1 (.mv (.t 17)), W1 2 (.mv (.t 18))]) k288_1

def c288 : ACode := .seq (.region [W1 10 (.mv (.c (.int .i64 0)))]) k288_2
theorem ok288 : fnOk Tryz.prog 288 c288 36 [.t 10] = true := by kernel_rfl

def k289_0 : ACode := .seq (.region [W1 3 (.mv (.t 0)), W1 4 (.mv (.t 0)), W1 5 (.bin .neq (.t 3) (.t 4)), W1 2 (.mv (.t 5))]) (.ret)

def c289 : ACode := .seq (.region [W1 2 (.mv (.c (.bool false)))]) k289_0
theorem ok289 : fnOk Tryz.prog 289 c289 6 [.t 2] = true := by kernel_rfl

def k291_0 : ACode := .seq (.block 1 ( .region [W1 15 (.mv (.t 4)), W1 16 (.bin .mul (.t 15) (.c (.int .u32 16777619))), W1 17 (.mv (.t 0)), W1 18 (.mv (.t 5)), W1 19 (.ixstr (.t 17) (.t 18)), W1 20 (.cvt .u32 (.t 19)), W1 21 (.bin .add (.t 16) (.t 20)), W1 4 (.mv (.t 21))])) (.region [W1 13 (.mv (.t 5)), W1 14 (.bin .add (.t 13) (.c (.int .i64 1))), W1 5 (.mv (.t 14))])

def b291_1 : ACode := .seq (.seq (.region [W1 9 (.mv (.t 5)), W1 10 (.mv (.t 0)), W1 11 (.len true (.t 10)), W1 12 (.bin .lss (.t 9) (.t 11))]) (.cond (.t 12) (.skip) (.exit 0))) k291_0

def k291_2 : ACode := .region [W1 31 (.mv (.t 6)), W1 32 (.mv (.t 7)), W1 33 (.bin .mul (.t 31) (.t 32)), W1 6 (.mv (.t 33))]

def k291_3 : ACode := .region [W1 34 (.mv (.t 7)), W1 35 (.mv (.t 7)), W1 36 (.bin .mul (.t 34) (.t 35)), W1 7 (.mv (.t 36))]

def k291_4 : ACode := .seq (.block 3 ( .seq (.seq (.region [W1 28 (.mv (.t 8)), W1 29 (.bin .and (.t 28) (.c (.int .i64 1))), W1 30 (.bin .neq (.t 29) (.c (.int .i64 0)))]) (.cond (.t 30) k291_2 (.skip))) k291_3)) (.region [W1 26 (.mv (.t 8)), W1 27 (.bin .shr (.t 26) (.c (.int .u64 1))), W1 8 (.mv (.t 27))])

def b291_5 : ACode := .seq (.seq (.region [W1 24 (.mv (.t 8)), W1 25 (.bin .gtr (.t 24) (.c (.int .i64 0)))]) (.cond (.t 25) (.skip) (.exit 2))) k291_4

def k291_6 : ACode := .seq (.region [W1 37 (.mv (.t 4)), W1 38 (.mv (.t 6)), W1 2 (.mv (.t 37)), W1 3 (.mv (.t 38))]) (.ret)

def k291_7 : ACode := .seq (.seq (.region [W1 22 (.mv (.t 0)), W1 23 (.len true (.t 22)), W1 8 (.mv (.t 23))]) (.block 2 ( .loop b291_5))) k291_6

def k291_8 : ACode := .seq (.seq (.region [W1 5 (.mv (.c (.int .i64 0)))]) (.block 0 ( .loop b291_1))) (.seq (.region [W1 6 (.mv (.c (.int .u32 1))), W1 7 (.mv (.c (.int .u32 16777619)))]) k291_7)

def c291 : ACode := .seq (.region [W1 2 (.mv (.c (.int .u32 0))), W1 3 (.mv (.c (.int .u32 0)))]) (.seq (.region [W1 4 (.mv (.c (.int .u32 0)))]) k291_8)
theorem ok291 : fnOk Tryz.prog 291 c291 39 [.t 2, .t 3] = true := by kernel_rfl

def k292_0 : ACode := .seq (.region [W1 24 (.mv (.t 2)), W1 25 (.mv (.t 1)), W1 8 (.mv (.t 24)), W1 9 (.mv (.t 25))]) (.ret)

def k292_1 : ACode := .seq (.region [W1 19 (.mv (.t 3)), W1 20 (.nck (.t 19)), W1 21 (.ld none (.t 20)), W1 22 (.bin .add (.t 21) (.c (.int .i64 1))), W1 23 (.nck (.t 19)), ⟨none, .st 1 (.t 23) (.t 22), none⟩]) k292_0

def k292_2 : ACode := .seq (.region [W1 26 (.mv (.t 1)), W1 27 (.mv (.t 2)), W1 8 (.mv (.t 26)), W1 9 (.mv (.t 27))]) (.ret)

def k292_3 : ACode := .seq (.seq (.drawn [(0, W1 10 (.mv (.t 0))), (1, W1 11 (.mv (.t 2))), (2, W1 12 (.ixs 1 (.t 10) (.t 11))), (3, W1 13 (.ld none (.t 12))), (4, W1 14 (.mv (.t 0))), (5, W1 15 (.mv (.t 1))), (6, W1 16 (.ixs 1 (.t 14) (.t 15))), (7, W1 17 (.ld none (.t 16))), (8, W1 18 (.call 267 [(.t 13), (.t 17)]))] [[], [], [0, 1], [2], [], [], [4, 5], [6], [3, 7]] 0) (.cond (.t 18) k292_1 (.skip))) k292_2

def c292 : ACode := .seq (.region [W1 8 (.mv (.c (.int .i64 0))), W1 9 (.mv (.c (.int .i64 0)))]) k292_3
theorem ok292 : fnOk Tryz.prog 292 c292 28 [.t 8, .t 9] = true := by kernel_rfl

end Go.Proofs.YtipigjckoejfpaaGreat.Ax

/- The code of functions of the program, for our abstract machine; each is tied to the program by a closed test. Written by gen.py. Conditions: none. -/
namespace Go.Proofs.YtipigjckoejfpaaGreat.Ax
open Go Go.Ax
set_option maxRecDepth 100000

def k26_0 : ACode := .cond (.t 24) (.seq (.region [W1 2 (.mv (.c (.bool false)))]) (.ret)) (.skip)

def k26_1 : ACode := .seq (.region [W1 25 (.ld (some 5) (.t 1)), W1 26 (.call 95 [(.t 25)]), W1 27 (.mv (.t 26)), ⟨(some 28), .ld (some 5) (.t 1), (some (27, true))⟩, ⟨(some 29), .call 96 [(.t 28)], (some (27, true))⟩, W1 30 (.pick (.t 27) (.t 29) (.c (.bool false))), W1 31 (.mv (.t 30)), ⟨(some 32), .ld (some 5) (.t 1), (some (31, true))⟩, ⟨(some 33), .call 97 [(.t 32)], (some (31, true))⟩, W1 34 (.pick (.t 31) (.t 33) (.c (.bool false))), W1 35 (.mv (.t 34)), ⟨(some 36), .ld (some 5) (.t 1), (some (35, true))⟩, ⟨(some 37), .call 98 [(.t 36)], (some (35, true))⟩,
 ⟨(some 38), .un .not (.t 37), (some (35, true))⟩, W1 39 (.pick (.t 35) (.t 38) (.c (.bool false))), W1 40 (.mv (.t 39)), ⟨(some 41), .ld (some 5) (.t 1), (some (40, true))⟩, ⟨(some 42), .call 100 [(.t 41)], (some (40, true))⟩, ⟨(some 43), .call 99 [(.t 42)], (some (40, true))⟩, W1 44 (.pick (.t 40) (.t 43) (.c (.bool false))), W1 45 (.mv (.t 44)), ⟨(some 46), .ld (some 5) (.t 1), (some (45, true))⟩, ⟨(some 47), .call 101 [(.t 46)], (some (45, true))⟩, W1 48 (.pick (.t 45) (.t 47) (.c (.bool false))), W1 2 (.mv (.t 48))]) (.ret)

def k26_2 : ACode := .seq (.seq (.region [W1 3 (.fld 0 (.t 1)), W1 4 (.ld (some 3) (.t 3)), W1 5 (.call 94 [(.t 4)]), W1 6 (.un .not (.t 5)), W1 7 (.mv (.t 6)), ⟨(some 8), .fld 3 (.t 1), (some (7, false))⟩, ⟨(some 9), .ld none (.t 8), (some (7, false))⟩, ⟨(some 10), .len false (.t 9), (some (7, false))⟩, ⟨(some 11), .fld 0 (.t 1), (some (7, false))⟩, ⟨(some 12), .fld 1 (.t 11), (some (7, false))⟩, ⟨(some 13), .ld none (.t 12), (some (7, false))⟩, ⟨(some 14), .bin .neq (.t 10) (.t 13), (some (7, false))⟩, W1 15 (.pick (.t 7) (.c (.bool true)) (.t 14)), W1 16 (.mv (.t 15)),
 ⟨(some 17), .fld 4 (.t 1), (some (16, false))⟩, ⟨(some 18), .ld none (.t 17), (some (16, false))⟩, ⟨(some 19), .len false (.t 18), (some (16, false))⟩, ⟨(some 20), .fld 0 (.t 1), (some (16, false))⟩, ⟨(some 21), .fld 2 (.t 20), (some (16, false))⟩, ⟨(some 22), .ld none (.t 21), (some (16, false))⟩, ⟨(some 23), .bin .neq (.t 19) (.t 22), (some (16, false))⟩, W1 24 (.pick (.t 16) (.c (.bool true)) (.t 23))]) k26_0) k26_1

def c26 : ACode := .seq (.region [W1 1 (.box (.t 0)), W1 2 (.mv (.c (.bool false)))]) k26_2
theorem ok26 : fnOk Tryz.prog 26 c26 49 [.t 2] = true := by kernel_rfl

def k27_0 : ACode := .seq (.drawn [(0, W1 3 (.fld 0 (.t 1))), (1, W1 4 (.ld (some 3) (.t 3))), (2, W1 5 (.fld 3 (.t 1))), (3, W1 6 (.ld none (.t 5))), (5, W1 8 (.fld 4 (.t 1))), (6, W1 9 (.ld none (.t 8))), (4, W1 7 (.call 102 [(.t 6)])), (7, W1 10 (.call 103 [(.t 9)])), (8, W1 11 (.build [.int .i64 0, .int .i64 0, .int .i64 0, .lit (.slice none 0 0), .lit (.slice none 0 0)] [(0, 3, (.t 4)), (3, 1, (.t 7)), (4, 1, (.t 10))])), (9, ⟨none, .st 5 (.t 2) (.t 11), none⟩)] [[], [0], [], [2], [3], [], [5], [6, 4], [1, 4, 7], [8, 7, 0, 1, 2, 3, 4, 5, 6, 7, 8]] 0) (.ret)

def c27 : ACode := .seq (.region [W1 1 (.box (.t 0)), W1 2 (.new [.int .i64 0, .int .i64 0, .int .i64 0, .lit (.slice none 0 0), .lit (.slice none 0 0)])]) k27_0
theorem ok27 : fnOk Tryz.prog 27 c27 12 [.c 2 (some 5)] = true := by kernel_rfl

def k34_0 : ACode := .seq (.region [W1 5 (.fld 0 (.t 2)), W1 6 (.ld (some 3) (.t 5)), W1 7 (.fld 0 (.t 3)), W1 8 (.ld (some 3) (.t 7)), W1 9 (.eqs false [0, 0, 0] (.t 6) (.t 8)), W1 10 (.mv (.t 9)), ⟨(some 11), .fld 3 (.t 2), (some (10, true))⟩, ⟨(some 12), .ld none (.t 11), (some (10, true))⟩, ⟨(some 13), .fld 3 (.t 3), (some (10, true))⟩, ⟨(some 14), .ld none (.t 13), (some (10, true))⟩, ⟨(some 15), .call 120 [(.t 12), (.t 14)], (some (10, true))⟩, W1 16 (.pick (.t 10) (.t 15) (.c (.bool false))), W1 17 (.mv (.t 16)), ⟨(some 18), .fld 4 (.t 2), (some (17, true))⟩,
 ⟨(some 19), .ld none (.t 18), (some (17, true))⟩, ⟨(some 20), .fld 4 (.t 3), (some (17, true))⟩, ⟨(some 21), .ld none (.t 20), (some (17, true))⟩, ⟨(some 22), .call 121 [(.t 19), (.t 21)], (some (17, true))⟩, W1 23 (.pick (.t 17) (.t 22) (.c (.bool false))), W1 4 (.mv (.t 23))]) (.ret)

def c34 : ACode := .seq (.region [W1 2 (.box (.t 0)), W1 3 (.box (.t 1)), W1 4 (.mv (.c (.bool false)))]) k34_0
theorem ok34 : fnOk Tryz.prog 34 c34 24 [.t 4] = true := by kernel_rfl

def k51_0 : ACode := .cond (.t 4) (.seq (.region [W1 2 (.mv (.c (.bool true)))]) (.ret)) (.skip)

def k51_1 : ACode := .seq (.region [W1 5 (.fld 0 (.t 1)), W1 6 (.ld none (.t 5)), W1 7 (.call 131 [(.t 6), (.c (.int .i64 1)), (.c (.int .i64 5))]), W1 8 (.mv (.t 7)), ⟨(some 9), .fld 1 (.t 1), (some (8, true))⟩, ⟨(some 10), .ld none (.t 9), (some (8, true))⟩, ⟨(some 11), .call 131 [(.t 10), (.c (.int .i64 0)), (.c (.int .i64 47))], (some (8, true))⟩, W1 12 (.pick (.t 8) (.t 11) (.c (.bool false))), W1 13 (.mv (.t 12)), ⟨(some 14), .fld 2 (.t 1), (some (13, true))⟩, ⟨(some 15), .ld none (.t 14), (some (13, true))⟩, ⟨(some 16), .call 132 [(.t 15)], (some (13, true))⟩,
 W1 17 (.pick (.t 13) (.t 16) (.c (.bool false))), W1 18 (.mv (.t 17)), ⟨(some 19), .fld 3 (.t 1), (some (18, true))⟩, ⟨(some 20), .ld none (.t 19), (some (18, true))⟩, ⟨(some 21), .call 133 [(.t 20)], (some (18, true))⟩, W1 22 (.pick (.t 18) (.t 21) (.c (.bool false))), W1 23 (.mv (.t 22)), ⟨(some 24), .fld 3 (.t 1), (some (23, true))⟩, ⟨(some 25), .ld none (.t 24), (some (23, true))⟩, ⟨(some 26), .bin .eql (.t 25) (.c (.int .i64 0)), (some (23, true))⟩, ⟨(some 27), .mv (.t 26), (some (23, true))⟩, ⟨(some 28), .fld 0 (.t 1), (some (27, false))⟩,
 ⟨(some 29), .ld none (.t 28), (some (27, false))⟩, ⟨(some 30), .call 134 [(.t 29)], (some (27, false))⟩, ⟨(some 31), .pick (.t 27) (.c (.bool true)) (.t 30), (some (23, true))⟩, W1 32 (.pick (.t 23) (.t 31) (.c (.bool false))), W1 2 (.mv (.t 32))]) (.ret)

def k51_2 : ACode := .seq (.seq (.region [W1 3 (.ld (some 4) (.t 1)), W1 4 (.call 68 [(.t 3)])]) k51_0) k51_1

def c51 : ACode := .seq (.region [W1 1 (.box (.t 0)), W1 2 (.mv (.c (.bool false)))]) k51_2
theorem ok51 : fnOk Tryz.prog 51 c51 33 [.t 2] = true := by kernel_rfl

def k65_0 : ACode := .seq (.region [W1 21 (.build [.int .i64 0, .int .i64 0, .int .i64 0, .int .i64 0] []), W1 22 (.mv (.t 10)), W1 6 (.mv (.c (.int .i64 0))), ⟨none, .st 4 (.t 7) (.t 21), none⟩, W1 8 (.mv (.t 22))]) (.ret)

def k65_1 : ACode := .seq (.region [W1 31 (.build [.int .i64 0, .int .i64 0, .int .i64 0, .int .i64 0] []), W1 6 (.mv (.c (.int .i64 0))), ⟨none, .st 4 (.t 7) (.t 31), none⟩, W1 8 (.mv (.c (.int .i64 4)))]) (.ret)

def k65_2 : ACode := .seq (.region [W1 24 (.fld 3 (.t 3)), W1 25 (.ld none (.t 24)), W1 26 (.mv (.t 9)), W1 27 (.ixs 5 (.t 25) (.t 26)), W1 28 (.fld 0 (.t 27)), W1 29 (.ld (some 4) (.t 28)), W1 30 (.call 68 [(.t 29)]), W1 23 (.mv (.t 30))]) (.cond (.t 23) k65_1 (.skip))

def k65_3 : ACode := .seq (.drawn [(1, W1 33 (.fld 3 (.t 3))), (2, W1 34 (.ld none (.t 33))), (3, W1 35 (.mv (.t 9))), (4, W1 36 (.ixs 5 (.t 34) (.t 35))), (5, W1 37 (.fld 0 (.t 36))), (6, W1 38 (.ld (some 4) (.t 37))), (0, W1 32 (.mv (.t 9))), (7, W1 6 (.mv (.t 32))), (8, ⟨none, .st 4 (.t 7) (.t 38), none⟩), (9, W1 8 (.mv (.c (.int .i64 0))))] [[], [], [1], [], [2, 3], [4], [5], [0, 0], [6, 7, 0, 1, 2, 3, 4, 5, 6, 7], [8, 0, 1, 2, 3, 4, 5, 6, 7, 8]] 0) (.ret)

def k65_4 : ACode := .seq (.block 0 ( .seq (.region [W1 19 (.mv (.t 10)), W1 20 (.bin .neq (.t 19) (.c (.int .i64 0))), W1 18 (.mv (.t 20))]) (.cond (.t 18) k65_0 k65_2))) k65_3

def k65_5 : ACode := .seq (.region [W1 12 (.ld (some 5) (.t 3)), W1 13 (.mv (.t 1)), W1 14 (.ld (some 1) (.t 5)), W1 15 (.call 141 [(.t 12), (.t 13), (.t 14)]), W1 11 (.mv (.t 15)), W1 16 (.ext (.t 11) 0), W1 17 (.ext (.t 11) 1), W1 9 (.mv (.t 16)), W1 10 (.mv (.t 17))]) k65_4

def c65 : ACode := .seq (.region [W1 3 (.box (.t 0)), W1 5 (.box (.t 2)), W1 6 (.mv (.c (.int .i64 0))), W1 7 (.new [.int .i64 0, .int .i64 0, .int .i64 0, .int .i64 0]), W1 8 (.mv (.c (.int .i64 0)))]) k65_5
theorem ok65 : fnOk Tryz.prog 65 c65 39 [.t 6, .c 7 (some 4), .t 8] = true := by kernel_rfl

def k68_0 : ACode := .seq (.region [W1 3 (.ld (some 4) (.t 1)), W1 4 (.build [.int .i64 0, .int .i64 0, .int .i64 0, .int .i64 0] []), W1 5 (.eqs false [0, 0, 0, 0] (.t 3) (.t 4)), W1 2 (.mv (.t 5))]) (.ret)

def c68 : ACode := .seq (.region [W1 1 (.box (.t 0)), W1 2 (.mv (.c (.bool false)))]) k68_0
theorem ok68 : fnOk Tryz.prog 68 c68 6 [.t 2] = true := by kernel_rfl

def k79_0 : ACode := .seq (.region [W1 31 (.mv (.t 4)), W1 32 (.sbin .neq (.t 31) (.c (.str []))), W1 33 (.mv (.t 32)), ⟨(some 34), .fld 1 (.t 1), (some (33, true))⟩, ⟨(some 35), .ld (some 1) (.t 34), (some (33, true))⟩, ⟨(some 36), .call 152 [(.t 35)], (some (33, true))⟩, W1 37 (.pick (.t 33) (.t 36) (.c (.bool false))), W1 38 (.mv (.t 37)), ⟨(some 39), .mv (.t 5), (some (38, true))⟩, W1 40 (.pick (.t 38) (.t 39) (.c (.bool false))), W1 41 (.mv (.t 40)), ⟨(some 42), .ld (some 6) (.t 1), (some (41, true))⟩, ⟨(some 43), .call 154 [(.t 42)], (some (41, true))⟩,
 W1 44 (.pick (.t 41) (.t 43) (.c (.bool false))), W1 45 (.mv (.t 44)), ⟨(some 46), .fld 5 (.t 1), (some (45, true))⟩, ⟨(some 47), .ld none (.t 46), (some (45, true))⟩, ⟨(some 48), .bin .eql (.t 47) (.c (.int .u64 0)), (some (45, true))⟩, ⟨(some 49), .mv (.t 48), (some (45, true))⟩, ⟨(some 50), .mv (.t 4), (some (49, false))⟩, ⟨(some 51), .call 151 [(.t 50), (.c (.str [87]))], (some (49, false))⟩, ⟨(some 52), .pick (.t 49) (.c (.bool true)) (.t 51), (some (45, true))⟩, W1 53 (.pick (.t 45) (.t 52) (.c (.bool false))), W1 2 (.mv (.t 53))]) (.ret)

def k79_1 : ACode := .seq (.region [W1 12 (.fld 2 (.t 1)), W1 13 (.fld 0 (.t 12)), W1 14 (.ld none (.t 13)), W1 15 (.len false (.t 14)), W1 16 (.bin .eql (.t 15) (.c (.int .i64 0))), W1 17 (.mv (.t 16)), ⟨(some 18), .mv (.t 4), (some (17, true))⟩, ⟨(some 19), .call 151 [(.t 18), (.c (.str [66]))], (some (17, true))⟩, ⟨(some 20), .un .not (.t 19), (some (17, true))⟩, W1 21 (.pick (.t 17) (.t 20) (.c (.bool false))), W1 22 (.mv (.t 21)), ⟨(some 23), .fld 2 (.t 1), (some (22, false))⟩, ⟨(some 24), .ld (some 1) (.t 23), (some (22, false))⟩, ⟨(some 25), .call 152 [(.t 24)], (some (22, false))⟩,
 ⟨(some 26), .mv (.t 25), (some (22, false))⟩, ⟨(some 27), .mv (.t 4), (some (26, true))⟩, ⟨(some 28), .call 153 [(.t 27), (.c (.str [66, 98]))], (some (26, true))⟩, ⟨(some 29), .pick (.t 26) (.t 28) (.c (.bool false)), (some (22, false))⟩, W1 30 (.pick (.t 22) (.c (.bool true)) (.t 29)), W1 5 (.mv (.t 30))]) k79_0

def k79_2 : ACode := .seq (.region [W1 7 (.fld 0 (.t 1)), W1 8 (.ld none (.t 7)), W1 9 (.call 150 [(.t 8)]), W1 6 (.mv (.t 9)), W1 10 (.ext (.t 6) 0), W1 11 (.ext (.t 6) 1), W1 3 (.mv (.t 10)), W1 4 (.mv (.t 11))]) k79_1

def c79 : ACode := .seq (.region [W1 1 (.box (.t 0)), W1 2 (.mv (.c (.bool false)))]) k79_2
theorem ok79 : fnOk Tryz.prog 79 c79 54 [.t 2] = true := by kernel_rfl

def k87_0 : ACode := .seq (.region [W1 25 (.build [.int .i64 0, .int .i64 0, .int .i64 0, .lit (.slice none 0 0), .lit (.slice none 0 0)] []), ⟨none, .st 5 (.t 4) (.t 25), none⟩, W1 5 (.mv (.c (.int .i64 1)))]) (.ret)

def k87_1 : ACode := .region [W1 40 (.fld 3 (.t 8)), W1 41 (.ld none (.t 40)), W1 42 (.mv (.t 9)), W1 43 (.ixs 5 (.t 41) (.t 42)), W1 44 (.fld 4 (.t 43)), ⟨none, .st 1 (.t 44) (.c (.int .i64 (-1))), none⟩]

def k87_2 : ACode := .seq (.block 1 ( .seq (.region [W1 39 (.mv (.t 37)), W1 9 (.mv (.t 39))]) k87_1)) (.region [W1 45 (.bin .add (.t 37) (.c (.int .i64 1))), W1 37 (.mv (.t 45))])

def b87_3 : ACode := .seq (.region [W1 38 (.bin .lss (.t 37) (.t 36))]) (.seq (.cond (.t 38) (.skip) (.exit 0)) k87_2)

def k87_4 : ACode := .region [W1 83 (.fld 3 (.t 8)), W1 84 (.ld none (.t 83)), W1 85 (.mv (.t 12)), W1 86 (.bin .add (.t 85) (.c (.int .i64 1))), W1 87 (.build [.int .i64 0, .int .i64 0, .int .i64 0, .int .i64 0] [(0, 1, (.c (.int .i64 3))), (1, 1, (.c (.int .i64 1))), (2, 1, (.c (.int .i64 7)))]), W1 88 (.mv (.t 10)), W1 89 (.bin .add (.t 88) (.c (.int .i64 1))), W1 90 (.build [.int .i64 0, .int .i64 0, .int .i64 0, .int .i64 0, .int .i64 0] [(0, 4, (.t 87)), (4, 1, (.t 89))]), W1 91 (.ixs 5 (.t 84) (.t 86)), ⟨none, .st 5 (.t 91) (.t 90), none⟩]

def k87_5 : ACode := .seq (.drawn [(0, W1 74 (.fld 4 (.t 8))), (1, W1 75 (.ld none (.t 74))), (4, W1 78 (.mv (.t 12))), (5, W1 79 (.call 159 [(.c (.int .i64 2)), (.c (.int .i64 3)), (.t 78)])), (2, W1 76 (.mv (.t 11))), (3, W1 77 (.bin .add (.c (.int .i64 2)) (.t 76))), (6, W1 73 (.mv (.t 79))), (7, W1 80 (.ext (.t 73) 0)), (9, W1 82 (.ixs 13 (.t 75) (.t 77))), (10, ⟨none, .st 13 (.t 82) (.t 80), none⟩), (8, W1 81 (.ext (.t 73) 1))] [[], [0], [], [2], [], [4], [5], [6], [6], [1, 3, 0, 1, 2, 3, 4, 5, 6, 7], [9, 7, 5, 0, 1, 2, 3, 4, 5, 6, 7]] 0) k87_4

def k87_6 : ACode := .seq (.region [W1 70 (.ld (some 3) (.t 2)), W1 71 (.mv (.t 11)), W1 72 (.call 160 [(.t 70), (.t 71)]), W1 12 (.mv (.t 72))]) k87_5

def k87_7 : ACode := .seq (.block 3 ( .seq (.region [W1 69 (.mv (.t 67)), W1 11 (.mv (.t 69))]) k87_6)) (.region [W1 92 (.bin .add (.t 67) (.c (.int .i64 1))), W1 67 (.mv (.t 92))])

def b87_8 : ACode := .seq (.region [W1 68 (.bin .lss (.t 67) (.t 66))]) (.seq (.cond (.t 68) (.skip) (.exit 2)) k87_7)

def k87_9 : ACode := .seq (.region [W1 99 (.ld (some 5) (.t 8)), ⟨none, .st 5 (.t 4) (.t 99), none⟩, W1 5 (.mv (.c (.int .i64 0)))]) (.ret)

def k87_10 : ACode := .seq (.region [W1 93 (.fld 3 (.t 8)), W1 94 (.ld none (.t 93)), W1 95 (.mv (.t 10)), W1 96 (.bin .add (.t 95) (.c (.int .i64 1))), W1 97 (.ixs 5 (.t 94) (.t 96)), W1 98 (.fld 4 (.t 97)), ⟨none, .st 1 (.t 98) (.c (.int .i64 (-1))), none⟩]) k87_9

def k87_11 : ACode := .seq (.seq (.region [W1 65 (.fld 0 (.t 2)), W1 66 (.ld none (.t 65)), W1 67 (.mv (.c (.int .i64 0)))]) (.block 2 ( .loop b87_8))) k87_10

def k87_12 : ACode := .seq (.region [W1 59 (.fld 3 (.t 8)), W1 60 (.ld none (.t 59)), W1 61 (.mv (.t 10)), W1 62 (.build [.int .i64 0, .int .i64 0, .int .i64 0, .int .i64 0] [(0, 1, (.c (.int .i64 1))), (1, 1, (.c (.int .i64 0))), (2, 1, (.c (.int .i64 7)))]), W1 63 (.ixs 5 (.t 60) (.t 61)), W1 64 (.fld 0 (.t 63)), ⟨none, .st 4 (.t 64) (.t 62), none⟩]) k87_11

def k87_13 : ACode := .seq (.region [W1 57 (.ld (some 3) (.t 2)), W1 58 (.call 160 [(.t 57), (.c (.int .i64 0))]), W1 10 (.mv (.t 58))]) k87_12

def k87_14 : ACode := .seq (.drawn [(0, W1 51 (.fld 4 (.t 8))), (1, W1 52 (.ld none (.t 51))), (2, W1 53 (.call 159 [(.c (.int .i64 3)), (.c (.int .i64 0)), (.c (.int .i64 0))])), (3, W1 50 (.mv (.t 53))), (4, W1 54 (.ext (.t 50) 0)), (6, W1 56 (.ixs 13 (.t 52) (.c (.int .i64 1)))), (7, ⟨none, .st 13 (.t 56) (.t 54), none⟩), (5, W1 55 (.ext (.t 50) 1))] [[], [0], [], [2], [3], [3], [1, 0, 1, 2, 3, 4], [6, 4, 2, 0, 1, 2, 3, 4]] 0) k87_13

def k87_15 : ACode := .seq (.region [W1 46 (.fld 4 (.t 8)), W1 47 (.ld none (.t 46)), W1 48 (.ld (some 13) (.t 6)), W1 49 (.ixs 13 (.t 47) (.c (.int .i64 0))), ⟨none, .st 13 (.t 49) (.t 48), none⟩]) k87_14

def k87_16 : ACode := .seq (.seq (.region [W1 34 (.fld 3 (.t 8)), W1 35 (.ld none (.t 34)), W1 36 (.len false (.t 35)), W1 37 (.mv (.c (.int .i64 0)))]) (.block 0 ( .loop b87_3))) k87_15

def k87_17 : ACode := .seq (.drawn [(0, W1 26 (.ld (some 3) (.t 2))), (1, W1 27 (.fld 1 (.t 2))), (2, W1 28 (.ld none (.t 27))), (4, W1 30 (.fld 2 (.t 2))), (5, W1 31 (.ld none (.t 30))), (3, W1 29 (.born 0 (.mks 5 40 [.int .i64 0, .int .i64 0, .int .i64 0, .int .i64 0, .int .i64 0] (.t 28) (.t 28)))), (6, W1 32 (.born 1 (.mks 13 104 [.int .i64 0, .int .i64 0, .int .i64 0, .int .i64 0, .int .i64 0, .int .i64 0, .int .i64 0, .bool false, .int .u64 0, .int .u64 0, .int .u64 0, .int .u64 0, .int .u64 0] (.t 31) (.t 31)))),
 (7, W1 33 (.build [.int .i64 0, .int .i64 0, .int .i64 0, .lit (.slice none 0 0), .lit (.slice none 0 0)] [(0, 3, (.t 26)), (3, 1, (.t 29)), (4, 1, (.t 32))])), (8, W1 8 (.born 2 (.new [.int .i64 0, .int .i64 0, .int .i64 0, .lit (.slice none 0 0), .lit (.slice none 0 0)]))), (9, ⟨none, .st 5 (.t 8) (.t 33), none⟩)] [[], [], [1], [2, 2], [], [4], [5, 5], [0, 3, 6], [], [8, 7, 0, 1, 2, 3, 4, 5, 6, 7, 8]] 3) k87_16

def k87_18 : ACode := .seq (.seq (.region [W1 18 (.ld (some 3) (.t 2)), W1 19 (.call 94 [(.t 18)]), W1 20 (.un .not (.t 19)), W1 21 (.mv (.t 20)), ⟨(some 22), .mv (.t 7), (some (21, false))⟩, ⟨(some 23), .un .not (.t 22), (some (21, false))⟩, W1 24 (.pick (.t 21) (.c (.bool true)) (.t 23))]) (.cond (.t 24) k87_0 (.skip))) k87_17

def k87_19 : ACode := .seq (.region [W1 14 (.mv (.t 1)), W1 15 (.call 159 [(.c (.int .i64 1)), (.t 14), (.c (.int .i64 0))]), W1 13 (.mv (.t 15)), W1 16 (.ext (.t 13) 0), W1 17 (.ext (.t 13) 1), W1 6 (.new [.int .i64 0, .int .i64 0, .int .i64 0, .int .i64 0, .int .i64 0, .int .i64 0, .int .i64 0, .bool false, .int .u64 0, .int .u64 0, .int .u64 0, .int .u64 0, .int .u64 0]), ⟨none, .st 13 (.t 6) (.t 16), none⟩, W1 7 (.mv (.t 17))]) k87_18

def c87 : ACode := .seq (.region [W1 2 (.box (.t 0)), W1 4 (.new [.int .i64 0, .int .i64 0, .int .i64 0, .lit (.slice none 0 0), .lit (.slice none 0 0)]), W1 5 (.mv (.c (.int .i64 0)))]) k87_19
theorem ok87 : fnOk Tryz.prog 87 c87 100 [.c 4 (some 5), .t 5] = true := by kernel_rfl

def k93_0 : ACode := .cond (.t 6) (.seq (.region [W1 4 (.mv (.c (.bool true)))]) (.ret)) (.skip)

def k93_1 : ACode := .seq (.region [W1 7 (.fld 0 (.t 2)), W1 8 (.ld none (.t 7)), W1 9 (.fld 0 (.t 3)), W1 10 (.ld none (.t 9)), W1 11 (.bin .eql (.t 8) (.t 10)), W1 12 (.mv (.t 11)), ⟨(some 13), .fld 1 (.t 2), (some (12, true))⟩, ⟨(some 14), .ld none (.t 13), (some (12, true))⟩, ⟨(some 15), .fld 1 (.t 3), (some (12, true))⟩, ⟨(some 16), .ld none (.t 15), (some (12, true))⟩, ⟨(some 17), .bin .eql (.t 14) (.t 16), (some (12, true))⟩, W1 18 (.pick (.t 12) (.t 17) (.c (.bool false))), W1 19 (.mv (.t 18)), ⟨(some 20), .fld 2 (.t 2), (some (19, true))⟩,
 ⟨(some 21), .ld none (.t 20), (some (19, true))⟩, ⟨(some 22), .fld 2 (.t 3), (some (19, true))⟩, ⟨(some 23), .ld none (.t 22), (some (19, true))⟩, ⟨(some 24), .call 104 [(.t 21), (.t 23)], (some (19, true))⟩, W1 25 (.pick (.t 19) (.t 24) (.c (.bool false))), W1 26 (.mv (.t 25)), ⟨(some 27), .fld 3 (.t 3), (some (26, true))⟩, ⟨(some 28), .ld none (.t 27), (some (26, true))⟩, ⟨(some 29), .bin .eql (.t 28) (.c (.int .i64 0)), (some (26, true))⟩, ⟨(some 30), .mv (.t 29), (some (26, true))⟩, ⟨(some 31), .fld 3 (.t 3), (some (30, false))⟩, ⟨(some 32), .ld none (.t 31), (some (30, false))⟩,
 ⟨(some 33), .fld 3 (.t 2), (some (30, false))⟩, ⟨(some 34), .ld none (.t 33), (some (30, false))⟩, ⟨(some 35), .bin .eql (.t 32) (.t 34), (some (30, false))⟩, ⟨(some 36), .pick (.t 30) (.c (.bool true)) (.t 35), (some (26, true))⟩, W1 37 (.pick (.t 26) (.t 36) (.c (.bool false))), W1 4 (.mv (.t 37))]) (.ret)

def k93_2 : ACode := .seq (.seq (.region [W1 5 (.ld (some 4) (.t 2)), W1 6 (.call 68 [(.t 5)])]) k93_0) k93_1

def c93 : ACode := .seq (.region [W1 2 (.box (.t 0)), W1 3 (.box (.t 1)), W1 4 (.mv (.c (.bool false)))]) k93_2
theorem ok93 : fnOk Tryz.prog 93 c93 38 [.t 4] = true := by kernel_rfl

def k94_0 : ACode := .seq (.region [W1 3 (.fld 0 (.t 1)), W1 4 (.ld none (.t 3)), W1 5 (.call 170 [(.t 4), (.c (.int .i64 1)), (.c (.int .i64 4))]), W1 6 (.mv (.t 5)), ⟨(some 7), .fld 1 (.t 1), (some (6, true))⟩, ⟨(some 8), .ld none (.t 7), (some (6, true))⟩, ⟨(some 9), .fld 0 (.t 1), (some (6, true))⟩, ⟨(some 10), .ld none (.t 9), (some (6, true))⟩, ⟨(some 11), .bin .mul (.c (.int .i64 8)) (.t 10), (some (6, true))⟩, ⟨(some 12), .call 170 [(.t 8), (.t 11), (.c (.int .i64 96))], (some (6, true))⟩, W1 13 (.pick (.t 6) (.t 12) (.c (.bool false))), W1 14 (.mv (.t 13)),
 ⟨(some 15), .fld 1 (.t 1), (some (14, true))⟩, ⟨(some 16), .ld none (.t 15), (some (14, true))⟩, ⟨(some 17), .bin .rem (.t 16) (.c (.int .i64 8)), (some (14, true))⟩, ⟨(some 18), .bin .eql (.t 17) (.c (.int .i64 0)), (some (14, true))⟩, W1 19 (.pick (.t 14) (.t 18) (.c (.bool false))), W1 20 (.mv (.t 19)), ⟨(some 21), .fld 2 (.t 1), (some (20, true))⟩, ⟨(some 22), .ld none (.t 21), (some (20, true))⟩, ⟨(some 23), .fld 0 (.t 1), (some (20, true))⟩, ⟨(some 24), .ld none (.t 23), (some (20, true))⟩, ⟨(some 25), .bin .add (.t 24) (.c (.int .i64 2)), (some (20, true))⟩,
 ⟨(some 26), .call 170 [(.t 22), (.t 25), (.c (.int .i64 48))], (some (20, true))⟩, W1 27 (.pick (.t 20) (.t 26) (.c (.bool false))), W1 2 (.mv (.t 27))]) (.ret)

def c94 : ACode := .seq (.region [W1 1 (.box (.t 0)), W1 2 (.mv (.c (.bool false)))]) k94_0
theorem ok94 : fnOk Tryz.prog 94 c94 28 [.t 2] = true := by kernel_rfl

def k95_0 : ACode := .region [W1 27 (.ld (some 4) (.t 5)), W1 28 (.call 68 [(.t 27)]), W1 29 (.un .not (.t 28)), W1 30 (.mv (.t 29)), ⟨(some 31), .fld 4 (.t 4), (some (30, true))⟩, ⟨(some 32), .ld none (.t 31), (some (30, true))⟩, ⟨(some 33), .bin .lss (.t 32) (.c (.int .i64 (-1))), (some (30, true))⟩, W1 34 (.pick (.t 30) (.t 33) (.c (.bool false))), W1 19 (.mv (.t 34))]

def k95_1 : ACode := .cond (.t 35) (.seq (.region [W1 2 (.mv (.c (.bool false)))]) (.ret)) (.skip)

def k95_2 : ACode := .seq (.drawn [(0, W1 36 (.ld (some 4) (.t 5))), (1, W1 37 (.call 68 [(.t 36)])), (2, W1 38 (.un .not (.t 37))), (3, W1 39 (.mv (.t 38))), (4, ⟨(some 40), .ld (some 5) (.t 1), (some (39, true))⟩), (5, ⟨(some 41), .fld 1 (.t 5), (some (39, true))⟩), (6, ⟨(some 42), .ld none (.t 41), (some (39, true))⟩), (7, ⟨(some 43), .call 171 [(.t 40), (.t 42)], (some (39, true))⟩), (8, ⟨(some 44), .un .not (.t 43), (some (39, true))⟩), (9, ⟨(some 45), .mv (.t 44), (some (39, true))⟩), (10, ⟨(some 46), .fld 4 (.t 1), (some (45, false))⟩),
 (11, ⟨(some 47), .ld none (.t 46), (some (45, false))⟩), (12, ⟨(some 48), .fld 1 (.t 5), (some (45, false))⟩), (13, ⟨(some 49), .ld none (.t 48), (some (45, false))⟩), (14, ⟨(some 50), .ixs 13 (.t 47) (.t 49), (some (45, false))⟩), (15, ⟨(some 51), .fld 0 (.t 50), (some (45, false))⟩), (16, ⟨(some 52), .ld none (.t 51), (some (45, false))⟩), (17, ⟨(some 53), .fld 0 (.t 5), (some (45, false))⟩), (18, ⟨(some 54), .ld none (.t 53), (some (45, false))⟩), (19, ⟨(some 55), .bin .neq (.t 52) (.t 54), (some (45, false))⟩),
 (20, ⟨(some 56), .pick (.t 45) (.c (.bool true)) (.t 55), (some (39, true))⟩), (21, W1 57 (.pick (.t 39) (.t 56) (.c (.bool false)))), (22, W1 35 (.mv (.t 57)))] [[], [0], [1], [2, 1], [3], [3], [5, 3], [4, 6, 3, 3], [7, 3], [8, 7, 3], [9], [10, 9], [9], [12, 9], [11, 13, 9], [14, 9], [15, 9], [9], [17, 9], [16, 18, 9], [9, 19, 3], [3, 20], [21, 9]] 0) k95_1

def k95_3 : ACode := .cond (.t 19) (.seq (.region [W1 2 (.mv (.c (.bool false)))]) (.ret)) k95_2

def k95_4 : ACode := .seq (.seq (.region [W1 20 (.ld (some 4) (.t 5)), W1 21 (.call 68 [(.t 20)]), W1 22 (.mv (.t 21)), ⟨(some 23), .fld 4 (.t 4), (some (22, true))⟩, ⟨(some 24), .ld none (.t 23), (some (22, true))⟩, ⟨(some 25), .bin .neq (.t 24) (.c (.int .i64 (-1))), (some (22, true))⟩, W1 26 (.pick (.t 22) (.t 25) (.c (.bool false))), W1 19 (.mv (.t 26))]) (.cond (.t 19) (.skip) k95_0)) k95_3

def k95_5 : ACode := .cond (.t 15) (.seq (.region [W1 2 (.mv (.c (.bool false)))]) (.ret)) k95_4

def k95_6 : ACode := .block 2 ( .seq (.region [W1 16 (.ld (some 4) (.t 5)), W1 17 (.call 51 [(.t 16)]), W1 18 (.un .not (.t 17)), W1 15 (.mv (.t 18))]) k95_5)

def k95_7 : ACode := .seq (.region [W1 13 (.fld 0 (.t 4)), W1 14 (.ld (some 4) (.t 13)), W1 5 (.new [.int .i64 0, .int .i64 0, .int .i64 0, .int .i64 0]), ⟨none, .st 4 (.t 5) (.t 14), none⟩]) k95_6

def k95_8 : ACode := .seq (.block 1 ( .seq (.region [W1 11 (.ixs 5 (.t 7) (.t 9)), W1 12 (.ld (some 5) (.t 11)), W1 4 (.new [.int .i64 0, .int .i64 0, .int .i64 0, .int .i64 0, .int .i64 0]), ⟨none, .st 5 (.t 4) (.t 12), none⟩]) k95_7)) (.region [W1 58 (.bin .add (.t 9) (.c (.int .i64 1))), W1 9 (.mv (.t 58))])

def b95_9 : ACode := .seq (.region [W1 10 (.bin .lss (.t 9) (.t 8))]) (.seq (.cond (.t 10) (.skip) (.exit 0)) k95_8)

def k95_10 : ACode := .seq (.seq (.region [W1 6 (.fld 3 (.t 1)), W1 7 (.ld none (.t 6)), W1 8 (.len false (.t 7)), W1 9 (.mv (.c (.int .i64 0)))]) (.block 0 ( .loop b95_9))) (.seq (.region [W1 2 (.mv (.c (.bool true)))]) (.ret))

def c95 : ACode := .seq (.region [W1 1 (.box (.t 0)), W1 2 (.mv (.c (.bool false)))]) k95_10
theorem ok95 : fnOk Tryz.prog 95 c95 59 [.t 2] = true := by kernel_rfl

def k96_0 : ACode := .cond (.t 16) (.seq (.region [W1 2 (.mv (.c (.bool false)))]) (.ret)) (.skip)

def k96_1 : ACode := .cond (.t 38) (.seq (.region [W1 2 (.mv (.c (.bool false)))]) (.ret)) (.skip)

def k96_2 : ACode := .cond (.t 59) (.seq (.region [W1 2 (.mv (.c (.bool false)))]) (.ret)) (.skip)

def k96_3 : ACode := .cond (.t 73) (.seq (.region [W1 2 (.mv (.c (.bool false)))]) (.ret)) (.skip)

def k96_4 : ACode := .seq (.region [W1 60 (.mv (.t 5)), W1 61 (.un .not (.t 60)), W1 62 (.mv (.t 61)), ⟨(some 63), .fld 0 (.t 4), (some (62, true))⟩, ⟨(some 64), .ld none (.t 63), (some (62, true))⟩, ⟨(some 65), .bin .neq (.t 64) (.c (.int .i64 0)), (some (62, true))⟩, W1 66 (.pick (.t 62) (.t 65) (.c (.bool false))), W1 67 (.mv (.t 66)), ⟨(some 68), .ld (some 5) (.t 1), (some (67, true))⟩, ⟨(some 69), .mv (.t 3), (some (67, true))⟩, ⟨(some 70), .call 173 [(.t 68), (.t 69)], (some (67, true))⟩, ⟨(some 71), .len false (.t 70), (some (67, true))⟩,
 ⟨(some 72), .bin .eql (.t 71) (.c (.int .i64 0)), (some (67, true))⟩, W1 73 (.pick (.t 67) (.t 72) (.c (.bool false)))]) k96_3

def k96_5 : ACode := .seq (.seq (.drawn [(0, W1 49 (.mv (.t 5))), (1, W1 50 (.mv (.t 49))), (2, ⟨(some 51), .ld (some 13) (.t 4), (some (50, true))⟩), (3, ⟨(some 52), .fld 0 (.t 1), (some (50, true))⟩), (4, ⟨(some 53), .ld (some 3) (.t 52), (some (50, true))⟩), (5, ⟨(some 54), .mv (.t 3), (some (50, true))⟩), (6, ⟨(some 55), .bin .sub (.t 54) (.c (.int .i64 2)), (some (50, true))⟩), (7, ⟨(some 56), .call 160 [(.t 53), (.t 55)], (some (50, true))⟩),
 (8, ⟨(some 57), .build [.int .i64 0, .int .i64 0, .int .i64 0, .int .i64 0, .int .i64 0, .int .i64 0, .int .i64 0, .bool false, .int .u64 0, .int .u64 0, .int .u64 0, .int .u64 0, .int .u64 0] [(0, 1, (.c (.int .i64 2))), (1, 1, (.c (.int .i64 3))), (2, 1, (.t 56))], (some (50, true))⟩), (9, ⟨(some 58), .eqs true [0, 0, 0, 0, 0, 0, 0, 1, 0, 0, 0, 0, 0] (.t 51) (.t 57), (some (50, true))⟩), (10, W1 59 (.pick (.t 50) (.t 58) (.c (.bool false))))] [[], [0], [1], [1], [3, 1], [1], [5, 1], [4, 6, 1, 1], [7, 1], [2, 8, 1], [1, 9]] 0) k96_2) k96_4

def k96_6 : ACode := .seq (.region [W1 39 (.mv (.t 3)), W1 40 (.bin .geq (.t 39) (.c (.int .i64 2))), W1 41 (.mv (.t 40)), ⟨(some 42), .mv (.t 3), (some (41, true))⟩, ⟨(some 43), .fld 0 (.t 1), (some (41, true))⟩, ⟨(some 44), .fld 0 (.t 43), (some (41, true))⟩, ⟨(some 45), .ld none (.t 44), (some (41, true))⟩, ⟨(some 46), .bin .add (.c (.int .i64 2)) (.t 45), (some (41, true))⟩, ⟨(some 47), .bin .lss (.t 42) (.t 46), (some (41, true))⟩, W1 48 (.pick (.t 41) (.t 47) (.c (.bool false))), W1 5 (.mv (.t 48))]) k96_5

def k96_7 : ACode := .seq (.seq (.region [W1 17 (.fld 5 (.t 4)), W1 18 (.ld none (.t 17)), W1 19 (.bin .gtr (.t 18) (.c (.int .i64 0))), W1 20 (.mv (.t 19)), ⟨(some 21), .fld 5 (.t 4), (some (20, true))⟩, ⟨(some 22), .ld none (.t 21), (some (20, true))⟩, ⟨(some 23), .fld 3 (.t 1), (some (20, true))⟩, ⟨(some 24), .ld none (.t 23), (some (20, true))⟩, ⟨(some 25), .len false (.t 24), (some (20, true))⟩, ⟨(some 26), .bin .gtr (.t 22) (.t 25), (some (20, true))⟩, ⟨(some 27), .mv (.t 26), (some (20, true))⟩, ⟨(some 28), .fld 3 (.t 1), (some (27, false))⟩,
 ⟨(some 29), .ld none (.t 28), (some (27, false))⟩, ⟨(some 30), .fld 5 (.t 4), (some (27, false))⟩, ⟨(some 31), .ld none (.t 30), (some (27, false))⟩, ⟨(some 32), .bin .sub (.t 31) (.c (.int .i64 1)), (some (27, false))⟩, ⟨(some 33), .ixs 5 (.t 29) (.t 32), (some (27, false))⟩, ⟨(some 34), .fld 0 (.t 33), (some (27, false))⟩, ⟨(some 35), .ld (some 4) (.t 34), (some (27, false))⟩, ⟨(some 36), .call 68 [(.t 35)], (some (27, false))⟩, ⟨(some 37), .pick (.t 27) (.c (.bool true)) (.t 36), (some (20, true))⟩, W1 38 (.pick (.t 20) (.t 37) (.c (.bool false)))]) k96_1) k96_6

def k96_8 : ACode := .seq (.seq (.region [W1 14 (.ld (some 13) (.t 4)), W1 15 (.call 172 [(.t 14)]), W1 16 (.un .not (.t 15))]) k96_0) k96_7

def k96_9 : ACode := .seq (.block 1 ( .seq (.region [W1 11 (.mv (.t 9)), W1 12 (.ixs 13 (.t 7) (.t 9)), W1 13 (.ld (some 13) (.t 12)), W1 4 (.new [.int .i64 0, .int .i64 0, .int .i64 0, .int .i64 0, .int .i64 0, .int .i64 0, .int .i64 0, .bool false, .int .u64 0, .int .u64 0, .int .u64 0, .int .u64 0, .int .u64 0]), W1 3 (.mv (.t 11)), ⟨none, .st 13 (.t 4) (.t 13), none⟩]) k96_8)) (.region [W1 74 (.bin .add (.t 9) (.c (.int .i64 1))), W1 9 (.mv (.t 74))])

def b96_10 : ACode := .seq (.region [W1 10 (.bin .lss (.t 9) (.t 8))]) (.seq (.cond (.t 10) (.skip) (.exit 0)) k96_9)

def k96_11 : ACode := .seq (.seq (.region [W1 6 (.fld 4 (.t 1)), W1 7 (.ld none (.t 6)), W1 8 (.len false (.t 7)), W1 9 (.mv (.c (.int .i64 0)))]) (.block 0 ( .loop b96_10))) (.seq (.region [W1 2 (.mv (.c (.bool true)))]) (.ret))

def c96 : ACode := .seq (.region [W1 1 (.box (.t 0)), W1 2 (.mv (.c (.bool false)))]) k96_11
theorem ok96 : fnOk Tryz.prog 96 c96 75 [.t 2] = true := by kernel_rfl

def k97_0 : ACode := .cond (.t 43) (.seq (.region [W1 2 (.mv (.c (.bool false)))]) (.ret)) (.skip)

def k97_1 : ACode := .region [W1 44 (.mv (.t 3)), W1 45 (.mv (.t 7)), W1 46 (.ixs 1 (.t 44) (.t 45)), ⟨none, .st 1 (.t 46) (.c (.bool true)), none⟩]

def k97_2 : ACode := .seq (.seq (.region [W1 34 (.mv (.t 7)), W1 35 (.mv (.t 3)), W1 36 (.len false (.t 35)), W1 37 (.bin .geq (.t 34) (.t 36)), W1 38 (.mv (.t 37)), ⟨(some 39), .mv (.t 3), (some (38, false))⟩, ⟨(some 40), .mv (.t 7), (some (38, false))⟩, ⟨(some 41), .ixs 1 (.t 39) (.t 40), (some (38, false))⟩, ⟨(some 42), .ld none (.t 41), (some (38, false))⟩, W1 43 (.pick (.t 38) (.c (.bool true)) (.t 42))]) k97_0) k97_1

def k97_3 : ACode := .seq (.region [W1 30 (.fld 2 (.t 5)), W1 31 (.ld none (.t 30)), W1 32 (.mv (.t 6)), W1 33 (.bin .add (.t 31) (.t 32)), W1 7 (.mv (.t 33))]) k97_2

def k97_4 : ACode := .seq (.block 3 ( .seq (.region [W1 29 (.mv (.t 27)), W1 6 (.mv (.t 29))]) k97_3)) (.region [W1 47 (.bin .add (.t 27) (.c (.int .i64 1))), W1 27 (.mv (.t 47))])

def b97_5 : ACode := .seq (.region [W1 28 (.bin .lss (.t 27) (.t 26))]) (.seq (.cond (.t 28) (.skip) (.exit 2)) k97_4)

def k97_6 : ACode := .seq (.region [W1 24 (.fld 1 (.t 5)), W1 25 (.ld none (.t 24)), W1 26 (.bin .shl (.c (.int .i64 1)) (.t 25)), W1 27 (.mv (.c (.int .i64 0)))]) (.block 2 ( .loop b97_5))

def k97_7 : ACode := .seq (.seq (.region [W1 21 (.fld 0 (.t 5)), W1 22 (.ld none (.t 21)), W1 23 (.bin .neq (.t 22) (.c (.int .i64 2)))]) (.cond (.t 23) (.exit 1) (.skip))) k97_6

def k97_8 : ACode := .seq (.block 1 ( .seq (.region [W1 19 (.ixs 13 (.t 15) (.t 17)), W1 20 (.ld (some 13) (.t 19)), W1 5 (.new [.int .i64 0, .int .i64 0, .int .i64 0, .int .i64 0, .int .i64 0, .int .i64 0, .int .i64 0, .bool false, .int .u64 0, .int .u64 0, .int .u64 0, .int .u64 0, .int .u64 0]), ⟨none, .st 13 (.t 5) (.t 20), none⟩]) k97_7)) (.region [W1 48 (.bin .add (.t 17) (.c (.int .i64 1))), W1 17 (.mv (.t 48))])

def b97_9 : ACode := .seq (.region [W1 18 (.bin .lss (.t 17) (.t 16))]) (.seq (.cond (.t 18) (.skip) (.exit 0)) k97_8)

def k97_10 : ACode := .cond (.t 67) (.seq (.region [W1 2 (.mv (.c (.bool false)))]) (.ret)) (.skip)

def k97_11 : ACode := .seq (.region [W1 57 (.mv (.t 3)), W1 58 (.mv (.t 8)), W1 59 (.ixs 1 (.t 57) (.t 58)), W1 60 (.ld none (.t 59)), W1 61 (.un .not (.t 60)), W1 62 (.mv (.t 61)), ⟨(some 63), .fld 0 (.t 9), (some (62, true))⟩, ⟨(some 64), .ld (some 4) (.t 63), (some (62, true))⟩, ⟨(some 65), .call 68 [(.t 64)], (some (62, true))⟩, ⟨(some 66), .un .not (.t 65), (some (62, true))⟩, W1 67 (.pick (.t 62) (.t 66) (.c (.bool false)))]) k97_10

def k97_12 : ACode := .seq (.block 5 ( .seq (.region [W1 54 (.mv (.t 52)), W1 55 (.ixs 5 (.t 50) (.t 52)), W1 56 (.ld (some 5) (.t 55)), W1 9 (.new [.int .i64 0, .int .i64 0, .int .i64 0, .int .i64 0, .int .i64 0]), W1 8 (.mv (.t 54)), ⟨none, .st 5 (.t 9) (.t 56), none⟩]) k97_11)) (.region [W1 68 (.bin .add (.t 52) (.c (.int .i64 1))), W1 52 (.mv (.t 68))])

def b97_13 : ACode := .seq (.region [W1 53 (.bin .lss (.t 52) (.t 51))]) (.seq (.cond (.t 53) (.skip) (.exit 4)) k97_12)

def k97_14 : ACode := .seq (.seq (.region [W1 49 (.fld 3 (.t 1)), W1 50 (.ld none (.t 49)), W1 51 (.len false (.t 50)), W1 52 (.mv (.c (.int .i64 0)))]) (.block 4 ( .loop b97_13))) (.seq (.region [W1 2 (.mv (.c (.bool true)))]) (.ret))

def k97_15 : ACode := .seq (.seq (.region [W1 14 (.fld 4 (.t 1)), W1 15 (.ld none (.t 14)), W1 16 (.len false (.t 15)), W1 17 (.mv (.c (.int .i64 0)))]) (.block 0 ( .loop b97_9))) k97_14

def k97_16 : ACode := .seq (.region [W1 10 (.fld 3 (.t 1)), W1 11 (.ld none (.t 10)), W1 12 (.len false (.t 11)), W1 13 (.mks 1 1 [.bool false] (.t 12) (.t 12)), W1 3 (.mv (.t 13))]) k97_15

def c97 : ACode := .seq (.region [W1 1 (.box (.t 0)), W1 2 (.mv (.c (.bool false)))]) k97_16
theorem ok97 : fnOk Tryz.prog 97 c97 69 [.t 2] = true := by kernel_rfl

def k98_0 : ACode := .cond (.t 24) (.seq (.region [W1 2 (.mv (.c (.bool true)))]) (.ret)) (.skip)

def k98_1 : ACode := .seq (.region [W1 13 (.fld 0 (.t 4)), W1 14 (.fld 0 (.t 13)), W1 15 (.ld none (.t 14)), W1 16 (.bin .eql (.t 15) (.c (.int .i64 2))), W1 17 (.mv (.t 16)), ⟨(some 18), .ld (some 5) (.t 1), (some (17, true))⟩, ⟨(some 19), .fld 0 (.t 4), (some (17, true))⟩, ⟨(some 20), .fld 1 (.t 19), (some (17, true))⟩, ⟨(some 21), .ld none (.t 20), (some (17, true))⟩, ⟨(some 22), .mv (.t 3), (some (17, true))⟩, ⟨(some 23), .call 174 [(.t 18), (.t 21), (.t 22)], (some (17, true))⟩, W1 24 (.pick (.t 17) (.t 23) (.c (.bool false)))]) k98_0

def k98_2 : ACode := .seq (.block 1 ( .seq (.region [W1 10 (.mv (.t 8)), W1 11 (.ixs 5 (.t 6) (.t 8)), W1 12 (.ld (some 5) (.t 11)), W1 4 (.new [.int .i64 0, .int .i64 0, .int .i64 0, .int .i64 0, .int .i64 0]), W1 3 (.mv (.t 10)), ⟨none, .st 5 (.t 4) (.t 12), none⟩]) k98_1)) (.region [W1 25 (.bin .add (.t 8) (.c (.int .i64 1))), W1 8 (.mv (.t 25))])

def b98_3 : ACode := .seq (.region [W1 9 (.bin .lss (.t 8) (.t 7))]) (.seq (.cond (.t 9) (.skip) (.exit 0)) k98_2)

def k98_4 : ACode := .seq (.seq (.region [W1 5 (.fld 3 (.t 1)), W1 6 (.ld none (.t 5)), W1 7 (.len false (.t 6)), W1 8 (.mv (.c (.int .i64 0)))]) (.block 0 ( .loop b98_3))) (.seq (.region [W1 2 (.mv (.c (.bool false)))]) (.ret))

def c98 : ACode := .seq (.region [W1 1 (.box (.t 0)), W1 2 (.mv (.c (.bool false)))]) k98_4
theorem ok98 : fnOk Tryz.prog 98 c98 26 [.t 2] = true := by kernel_rfl

def k99_0 : ACode := .cond (.t 11) (.seq (.region [W1 2 (.mv (.c (.bool false)))]) (.ret)) (.skip)

def k99_1 : ACode := .cond (.t 30) (.seq (.region [W1 2 (.mv (.c (.bool false)))]) (.ret)) (.skip)

def k99_2 : ACode := .seq (.region [W1 19 (.mv (.t 4)), W1 20 (.bin .neq (.t 19) (.c (.int .i64 (-2)))), W1 21 (.mv (.t 20)), ⟨(some 22), .mv (.t 4), (some (21, true))⟩, ⟨(some 23), .bin .neq (.t 22) (.c (.int .i64 (-1))), (some (21, true))⟩, W1 24 (.pick (.t 21) (.t 23) (.c (.bool false))), W1 25 (.mv (.t 24)), ⟨(some 26), .ld (some 1) (.t 1), (some (25, true))⟩, ⟨(some 27), .mv (.t 4), (some (25, true))⟩, ⟨(some 28), .call 175 [(.t 26), (.t 27)], (some (25, true))⟩, ⟨(some 29), .un .not (.t 28), (some (25, true))⟩, W1 30 (.pick (.t 25) (.t 29) (.c (.bool false)))]) k99_1

def k99_3 : ACode := .seq (.block 1 ( .seq (.region [W1 17 (.ixs 1 (.t 13) (.t 15)), W1 18 (.ld none (.t 17)), W1 4 (.mv (.t 18))]) k99_2)) (.region [W1 31 (.bin .add (.t 15) (.c (.int .i64 1))), W1 15 (.mv (.t 31))])

def b99_4 : ACode := .seq (.region [W1 16 (.bin .lss (.t 15) (.t 14))]) (.seq (.cond (.t 16) (.skip) (.exit 0)) k99_3)

def k99_5 : ACode := .cond (.t 51) (.seq (.region [W1 2 (.mv (.c (.bool false)))]) (.ret)) (.skip)

def k99_6 : ACode := .region [W1 42 (.fld 0 (.t 1)), W1 43 (.ld none (.t 42)), W1 44 (.mv (.t 7)), W1 45 (.ixs 1 (.t 43) (.t 44)), W1 46 (.ld none (.t 45)), W1 7 (.mv (.t 46))]

def k99_7 : ACode := .seq (.block 5 ( .seq (.seq (.region [W1 47 (.mv (.t 6)), W1 48 (.fld 0 (.t 1)), W1 49 (.ld none (.t 48)), W1 50 (.len false (.t 49)), W1 51 (.bin .gtr (.t 47) (.t 50))]) k99_5) (.region [W1 52 (.mv (.t 6)), W1 53 (.bin .add (.t 52) (.c (.int .i64 1))), W1 6 (.mv (.t 53))]))) k99_6

def b99_8 : ACode := .seq (.seq (.region [W1 39 (.ld (some 1) (.t 1)), W1 40 (.mv (.t 7)), W1 41 (.call 175 [(.t 39), (.t 40)])]) (.cond (.t 41) (.skip) (.exit 4))) k99_7

def k99_9 : ACode := .seq (.region [W1 38 (.mv (.t 5)), W1 7 (.mv (.t 38))]) (.block 4 ( .loop b99_8))

def k99_10 : ACode := .seq (.block 3 ( .seq (.region [W1 37 (.mv (.t 35)), W1 5 (.mv (.t 37))]) (.seq (.region [W1 6 (.mv (.c (.int .i64 0)))]) k99_9))) (.region [W1 54 (.bin .add (.t 35) (.c (.int .i64 1))), W1 35 (.mv (.t 54))])

def b99_11 : ACode := .seq (.region [W1 36 (.bin .lss (.t 35) (.t 34))]) (.seq (.cond (.t 36) (.skip) (.exit 2)) k99_10)

def k99_12 : ACode := .seq (.seq (.region [W1 32 (.fld 0 (.t 1)), W1 33 (.ld none (.t 32)), W1 34 (.len false (.t 33)), W1 35 (.mv (.c (.int .i64 0)))]) (.block 2 ( .loop b99_11))) (.seq (.region [W1 2 (.mv (.c (.bool true)))]) (.ret))

def k99_13 : ACode := .seq (.seq (.region [W1 12 (.fld 0 (.t 1)), W1 13 (.ld none (.t 12)), W1 14 (.len false (.t 13)), W1 15 (.mv (.c (.int .i64 0)))]) (.block 0 ( .loop b99_4))) k99_12

def k99_14 : ACode := .seq (.seq (.region [W1 8 (.fld 0 (.t 1)), W1 9 (.ld none (.t 8)), W1 10 (.len false (.t 9)), W1 11 (.bin .gtr (.t 10) (.c (.int .i64 96)))]) k99_0) k99_13

def c99 : ACode := .seq (.region [W1 1 (.box (.t 0)), W1 2 (.mv (.c (.bool false)))]) k99_14
theorem ok99 : fnOk Tryz.prog 99 c99 55 [.t 2] = true := by kernel_rfl

def k100_0 : ACode := .cond (.t 15) (.region [W1 16 (.fld 4 (.t 5)), ⟨none, .st 1 (.t 16) (.c (.int .i64 (-2))), none⟩]) (.skip)

def k100_1 : ACode := .region [W1 17 (.fld 0 (.t 3)), W1 18 (.ld none (.t 17)), W1 19 (.fld 4 (.t 5)), W1 20 (.ld none (.t 19)), W1 21 (.bsl 1 1 [.int .i64 0] [(0, (.t 20))]), W1 22 (.app 1 8 (.t 18) (.t 21)), W1 23 (.fld 0 (.t 3)), ⟨none, .st 1 (.t 23) (.t 22), none⟩]

def k100_2 : ACode := .seq (.seq (.region [W1 13 (.fld 0 (.t 5)), W1 14 (.ld (some 4) (.t 13)), W1 15 (.call 68 [(.t 14)])]) k100_0) k100_1

def k100_3 : ACode := .seq (.block 1 ( .seq (.region [W1 11 (.ixs 5 (.t 7) (.t 9)), W1 12 (.ld (some 5) (.t 11)), W1 5 (.new [.int .i64 0, .int .i64 0, .int .i64 0, .int .i64 0, .int .i64 0]), ⟨none, .st 5 (.t 5) (.t 12), none⟩]) k100_2)) (.region [W1 24 (.bin .add (.t 9) (.c (.int .i64 1))), W1 9 (.mv (.t 24))])

def b100_4 : ACode := .seq (.region [W1 10 (.bin .lss (.t 9) (.t 8))]) (.seq (.cond (.t 10) (.skip) (.exit 0)) k100_3)

def k100_5 : ACode := .seq (.seq (.region [W1 6 (.fld 3 (.t 1)), W1 7 (.ld none (.t 6)), W1 8 (.len false (.t 7)), W1 9 (.mv (.c (.int .i64 0)))]) (.block 0 ( .loop b100_4))) (.seq (.region [W1 25 (.ld (some 1) (.t 3)), ⟨none, .st 1 (.t 2) (.t 25), none⟩]) (.ret))

def c100 : ACode := .seq (.region [W1 1 (.box (.t 0)), W1 2 (.new [.lit (.slice none 0 0)])]) (.seq (.region [W1 3 (.new [.lit (.slice none 0 0)])]) k100_5)
theorem ok100 : fnOk Tryz.prog 100 c100 26 [.c 2 (some 1)] = true := by kernel_rfl

def k101_0 : ACode := .cond (.t 40) (.seq (.region [W1 2 (.mv (.c (.bool false)))]) (.ret)) (.skip)

def k101_1 : ACode := .seq (.region [W1 23 (.fld 0 (.t 4)), W1 24 (.ld (some 4) (.t 23)), W1 25 (.ld (some 4) (.t 5)), W1 26 (.call 93 [(.t 24), (.t 25)]), W1 27 (.un .not (.t 26)), W1 28 (.mv (.t 27)), ⟨(some 29), .fld 0 (.t 5), (some (28, true))⟩, ⟨(some 30), .ld none (.t 29), (some (28, true))⟩, ⟨(some 31), .bin .neq (.t 30) (.c (.int .i64 1)), (some (28, true))⟩, ⟨(some 32), .mv (.t 31), (some (28, true))⟩, ⟨(some 33), .fld 0 (.t 4), (some (32, false))⟩, ⟨(some 34), .fld 1 (.t 33), (some (32, false))⟩, ⟨(some 35), .ld none (.t 34), (some (32, false))⟩,
 ⟨(some 36), .fld 1 (.t 5), (some (32, false))⟩, ⟨(some 37), .ld none (.t 36), (some (32, false))⟩, ⟨(some 38), .bin .eql (.t 35) (.t 37), (some (32, false))⟩, ⟨(some 39), .pick (.t 32) (.c (.bool true)) (.t 38), (some (28, true))⟩, W1 40 (.pick (.t 28) (.t 39) (.c (.bool false)))]) k101_0

def k101_2 : ACode := .seq (.region [W1 16 (.fld 3 (.t 1)), W1 17 (.ld none (.t 16)), W1 18 (.fld 4 (.t 4)), W1 19 (.ld none (.t 18)), W1 20 (.ixs 5 (.t 17) (.t 19)), W1 21 (.fld 0 (.t 20)), W1 22 (.ld (some 4) (.t 21)), W1 5 (.new [.int .i64 0, .int .i64 0, .int .i64 0, .int .i64 0]), ⟨none, .st 4 (.t 5) (.t 22), none⟩]) k101_1

def k101_3 : ACode := .seq (.seq (.region [W1 13 (.fld 4 (.t 4)), W1 14 (.ld none (.t 13)), W1 15 (.bin .lss (.t 14) (.c (.int .i64 0)))]) (.cond (.t 15) (.exit 1) (.skip))) k101_2

def k101_4 : ACode := .seq (.block 1 ( .seq (.region [W1 11 (.ixs 5 (.t 7) (.t 9)), W1 12 (.ld (some 5) (.t 11)), W1 4 (.new [.int .i64 0, .int .i64 0, .int .i64 0, .int .i64 0, .int .i64 0]), ⟨none, .st 5 (.t 4) (.t 12), none⟩]) k101_3)) (.region [W1 41 (.bin .add (.t 9) (.c (.int .i64 1))), W1 9 (.mv (.t 41))])

def b101_5 : ACode := .seq (.region [W1 10 (.bin .lss (.t 9) (.t 8))]) (.seq (.cond (.t 10) (.skip) (.exit 0)) k101_4)

def k101_6 : ACode := .seq (.seq (.region [W1 6 (.fld 3 (.t 1)), W1 7 (.ld none (.t 6)), W1 8 (.len false (.t 7)), W1 9 (.mv (.c (.int .i64 0)))]) (.block 0 ( .loop b101_5))) (.seq (.region [W1 2 (.mv (.c (.bool true)))]) (.ret))

def c101 : ACode := .seq (.region [W1 1 (.box (.t 0)), W1 2 (.mv (.c (.bool false)))]) k101_6
theorem ok101 : fnOk Tryz.prog 101 c101 42 [.t 2] = true := by kernel_rfl

def k104_0 : ACode := .seq (.region [W1 5 (.mv (.t 0)), W1 6 (.mv (.t 1)), W1 7 (.call 176 [(.t 5), (.t 6)]), W1 8 (.bin .eql (.t 7) (.c (.int .i64 0))), W1 4 (.mv (.t 8))]) (.ret)

def c104 : ACode := .seq (.region [W1 4 (.mv (.c (.bool false)))]) k104_0
theorem ok104 : fnOk Tryz.prog 104 c104 9 [.t 4] = true := by kernel_rfl

def k131_0 : ACode := .seq (.region [W1 7 (.mv (.t 0)), W1 8 (.mv (.t 1)), W1 9 (.bin .geq (.t 7) (.t 8)), W1 10 (.mv (.t 9)), ⟨(some 11), .mv (.t 0), (some (10, true))⟩, ⟨(some 12), .mv (.t 2), (some (10, true))⟩, ⟨(some 13), .bin .leq (.t 11) (.t 12), (some (10, true))⟩, W1 14 (.pick (.t 10) (.t 13) (.c (.bool false))), W1 6 (.mv (.t 14))]) (.ret)

def c131 : ACode := .seq (.region [W1 6 (.mv (.c (.bool false)))]) k131_0
theorem ok131 : fnOk Tryz.prog 131 c131 15 [.t 6] = true := by kernel_rfl

def k132_0 : ACode := .seq (.region [W1 3 (.mv (.t 0)), W1 4 (.bin .geq (.t 3) (.c (.int .i64 0))), W1 5 (.mv (.t 4)), ⟨(some 6), .mv (.t 0), (some (5, true))⟩, ⟨(some 7), .bin .leq (.t 6) (.c (.int .i64 7)), (some (5, true))⟩, W1 8 (.pick (.t 5) (.t 7) (.c (.bool false))), W1 2 (.mv (.t 8))]) (.ret)

def c132 : ACode := .seq (.region [W1 2 (.mv (.c (.bool false)))]) k132_0
theorem ok132 : fnOk Tryz.prog 132 c132 9 [.t 2] = true := by kernel_rfl

def k133_0 : ACode := .seq (.region [W1 3 (.mv (.t 0)), W1 4 (.bin .geq (.t 3) (.c (.int .i64 0))), W1 5 (.mv (.t 4)), ⟨(some 6), .mv (.t 0), (some (5, true))⟩, ⟨(some 7), .bin .leq (.t 6) (.c (.int .i64 65535)), (some (5, true))⟩, W1 8 (.pick (.t 5) (.t 7) (.c (.bool false))), W1 2 (.mv (.t 8))]) (.ret)

def c133 : ACode := .seq (.region [W1 2 (.mv (.c (.bool false)))]) k133_0
theorem ok133 : fnOk Tryz.prog 133 c133 9 [.t 2] = true := by kernel_rfl

def k134_0 : ACode := .seq (.region [W1 3 (.mv (.t 0)), W1 4 (.bin .eql (.t 3) (.c (.int .i64 3))), W1 5 (.mv (.t 4)), ⟨(some 6), .mv (.t 0), (some (5, false))⟩, ⟨(some 7), .bin .eql (.t 6) (.c (.int .i64 4)), (some (5, false))⟩, W1 8 (.pick (.t 5) (.c (.bool true)) (.t 7)), W1 2 (.mv (.t 8))]) (.ret)

def c134 : ACode := .seq (.region [W1 2 (.mv (.c (.bool false)))]) k134_0
theorem ok134 : fnOk Tryz.prog 134 c134 9 [.t 2] = true := by kernel_rfl

def k141_0 : ACode := .cond (.t 29) (.seq (.region [W1 6 (.mv (.c (.int .i64 0))), W1 7 (.mv (.c (.int .i64 1)))]) (.ret)) (.skip)

def k141_1 : ACode := .region [W1 47 (.ld (some 5) (.t 3)), W1 48 (.mv (.t 10)), W1 49 (.call 217 [(.t 47), (.t 48)]), W1 46 (.mv (.t 49)), W1 50 (.ext (.t 46) 0), W1 51 (.ext (.t 46) 1), ⟨none, .st 13 (.t 8) (.t 50), none⟩, W1 9 (.mv (.t 51))]

def k141_2 : ACode := .cond (.t 59) (.seq (.region [W1 6 (.mv (.c (.int .i64 0))), W1 7 (.mv (.c (.int .i64 3)))]) (.ret)) (.skip)

def k141_3 : ACode := .region [W1 60 (.ld (some 13) (.t 8)), W1 61 (.mv (.t 12)), W1 62 (.call 218 [(.t 60), (.t 61)]), W1 10 (.mv (.t 62))]

def k141_4 : ACode := .seq (.seq (.region [W1 52 (.mv (.t 9)), W1 53 (.un .not (.t 52)), W1 54 (.mv (.t 53)), ⟨(some 55), .ld (some 13) (.t 8), (some (54, false))⟩, ⟨(some 56), .mv (.t 12), (some (54, false))⟩, ⟨(some 57), .call 218 [(.t 55), (.t 56)], (some (54, false))⟩, ⟨(some 58), .bin .lss (.t 57) (.c (.int .i64 0)), (some (54, false))⟩, W1 59 (.pick (.t 54) (.c (.bool true)) (.t 58))]) k141_2) k141_3

def k141_5 : ACode := .seq (.seq (.region [W1 44 (.mv (.t 11)), W1 45 (.bin .gtr (.t 44) (.c (.int .i64 0)))]) (.cond (.t 45) k141_1 (.skip))) k141_4

def k141_6 : ACode := .seq (.block 1 ( .seq (.region [W1 41 (.mv (.t 39)), W1 42 (.ixs 1 (.t 37) (.t 39)), W1 43 (.ld none (.t 42)), W1 11 (.mv (.t 41)), W1 12 (.mv (.t 43))]) k141_5)) (.region [W1 63 (.bin .add (.t 39) (.c (.int .i64 1))), W1 39 (.mv (.t 63))])

def b141_7 : ACode := .seq (.region [W1 40 (.bin .lss (.t 39) (.t 38))]) (.seq (.cond (.t 40) (.skip) (.exit 0)) k141_6)

def k141_8 : ACode := .seq (.region [W1 64 (.mv (.t 10)), W1 6 (.mv (.t 64)), W1 7 (.mv (.c (.int .i64 0)))]) (.ret)

def k141_9 : ACode := .seq (.seq (.region [W1 36 (.fld 0 (.t 5)), W1 37 (.ld none (.t 36)), W1 38 (.len false (.t 37)), W1 39 (.mv (.c (.int .i64 0)))]) (.block 0 ( .loop b141_7))) k141_8

def k141_10 : ACode := .seq (.region [W1 30 (.fld 4 (.t 3)), W1 31 (.ld none (.t 30)), W1 32 (.mv (.t 1)), W1 33 (.bin .add (.c (.int .i64 2)) (.t 32)), W1 34 (.ixs 13 (.t 31) (.t 33)), W1 35 (.ld (some 13) (.t 34)), W1 8 (.new [.int .i64 0, .int .i64 0, .int .i64 0, .int .i64 0, .int .i64 0, .int .i64 0, .int .i64 0, .bool false, .int .u64 0, .int .u64 0, .int .u64 0, .int .u64 0, .int .u64 0]), ⟨none, .st 13 (.t 8) (.t 35), none⟩, W1 9 (.mv (.c (.bool true)))]) (.seq (.region [W1 10 (.mv (.c (.int .i64 0)))]) k141_9)

def k141_11 : ACode := .seq (.seq (.region [W1 13 (.ld (some 5) (.t 3)), W1 14 (.call 26 [(.t 13)]), W1 15 (.un .not (.t 14)), W1 16 (.mv (.t 15)), ⟨(some 17), .mv (.t 1), (some (16, false))⟩, ⟨(some 18), .fld 0 (.t 3), (some (16, false))⟩, ⟨(some 19), .fld 0 (.t 18), (some (16, false))⟩, ⟨(some 20), .ld none (.t 19), (some (16, false))⟩, ⟨(some 21), .bin .sub (.t 20) (.c (.int .i64 1)), (some (16, false))⟩, ⟨(some 22), .call 165 [(.t 17), (.c (.int .i64 0)), (.t 21)], (some (16, false))⟩, ⟨(some 23), .un .not (.t 22), (some (16, false))⟩, W1 24 (.pick (.t 16) (.c (.bool true)) (.t 23)),
 W1 25 (.mv (.t 24)), ⟨(some 26), .ld (some 1) (.t 5), (some (25, false))⟩, ⟨(some 27), .call 152 [(.t 26)], (some (25, false))⟩, ⟨(some 28), .un .not (.t 27), (some (25, false))⟩, W1 29 (.pick (.t 25) (.c (.bool true)) (.t 28))]) k141_0) k141_10

def c141 : ACode := .seq (.region [W1 3 (.box (.t 0)), W1 5 (.box (.t 2)), W1 6 (.mv (.c (.int .i64 0))), W1 7 (.mv (.c (.int .i64 0)))]) k141_11
theorem ok141 : fnOk Tryz.prog 141 c141 65 [.t 6, .t 7] = true := by kernel_rfl

def k147_0 : ACode := .cond (.t 9) (.seq (.region [W1 4 (.mv (.c (.lit (.slice none 0 0))))]) (.ret)) (.skip)

def k147_1 : ACode := .seq (.region [W1 15 (.mv (.t 5)), W1 16 (.call 168 [(.t 15)])]) (.seq (.region [W1 17 (.mv (.t 5)), W1 4 (.mv (.t 17))]) (.ret))

def k147_2 : ACode := .seq (.drawn [(0, W1 10 (.ld (some 1) (.t 2))), (1, W1 11 (.ld (some 1) (.t 2))), (2, W1 12 (.mv (.t 1))), (3, W1 13 (.call 222 [(.t 11), (.t 12)])), (4, W1 14 (.call 221 [(.t 10), (.t 13)])), (5, W1 5 (.mv (.t 14)))] [[], [], [], [1, 2], [0, 3, 3], [4, 4, 0, 1, 2, 3, 4]] 0) k147_1

def k147_3 : ACode := .seq (.seq (.region [W1 6 (.ld (some 1) (.t 2)), W1 7 (.mv (.t 1)), W1 8 (.call 214 [(.t 6), (.t 7)]), W1 9 (.un .not (.t 8))]) k147_0) k147_2

def c147 : ACode := .seq (.region [W1 2 (.box (.t 0)), W1 4 (.mv (.c (.lit (.slice none 0 0))))]) k147_3
theorem ok147 : fnOk Tryz.prog 147 c147 18 [.t 4] = true := by kernel_rfl

def c148 : ACode := .seq (.region [W1 0 (.new [.int .i64 0, .int .i64 0, .int .i64 0])]) (.seq (.region [W1 1 (.build [.int .i64 0, .int .i64 0, .int .i64 0] [(0, 1, (.c (.int .i64 2))), (1, 1, (.c (.int .i64 32))), (2, 1, (.c (.int .i64 16)))]), ⟨none, .st 3 (.t 0) (.t 1), none⟩]) (.ret))
theorem ok148 : fnOk Tryz.prog 148 c148 2 [.c 0 (some 3)] = true := by kernel_rfl

def k150_0 : ACode := .cond (.t 11) (.seq (.region [W1 2 (.mv (.c (.str []))), W1 3 (.mv (.c (.str [])))]) (.ret)) (.skip)

def k150_1 : ACode := .seq (.region [W1 21 (.mv (.t 2)), W1 22 (.mv (.t 3)), W1 2 (.mv (.t 21)), W1 3 (.mv (.t 22))]) (.ret)

def k150_2 : ACode := .seq (.region [W1 13 (.mv (.t 4)), W1 14 (.mv (.t 0)), W1 15 (.ixs 1 (.t 13) (.t 14)), W1 16 (.ld none (.t 15)), W1 17 (.call 223 [(.t 16), (.c (.str [32]))]), W1 12 (.mv (.t 17)), W1 18 (.ext (.t 12) 0), W1 19 (.ext (.t 12) 1), W1 20 (.ext (.t 12) 2), W1 2 (.mv (.t 18)), W1 3 (.mv (.t 19))]) k150_1

def k150_3 : ACode := .seq (.seq (.region [W1 6 (.mv (.t 0)), W1 7 (.bin .lss (.t 6) (.c (.int .i64 1))), W1 8 (.mv (.t 7)), ⟨(some 9), .mv (.t 0), (some (8, false))⟩, ⟨(some 10), .bin .gtr (.t 9) (.c (.int .i64 13)), (some (8, false))⟩, W1 11 (.pick (.t 8) (.c (.bool true)) (.t 10))]) k150_0) k150_2

def c150 : ACode := .seq (.region [W1 2 (.mv (.c (.str []))), W1 3 (.mv (.c (.str [])))]) (.seq (.region [
 W1 5 (.bsl 1 14 [.str []] [(0, (.c (.str []))), (1, (.c (.str [109, 97, 107, 101, 32, 65, 66, 88, 89]))), (2, (.c (.str [99, 111, 112, 121, 32, 65, 66, 88]))), (3, (.c (.str [109, 105, 110, 116, 32, 65, 66, 88, 89]))), (4, (.c (.str [109, 111, 118, 101, 32, 65, 66]))), (5, (.c (.str [100, 101, 108, 101, 116, 101, 32, 65]))), (6, (.c (.str [114, 101, 118, 111, 107, 101, 32, 65]))), (7, (.c (.str [115, 101, 110, 100, 32, 65, 98, 87]))), (8, (.c (.str [114, 101, 99, 118, 32, 65, 98]))), (9, (.c (.str [114, 105, 110, 103, 32, 65]))), (10, (.c (.str [112, 111, 108, 108, 32, 65]))), (11, (.c (.str [119, 114, 105, 116, 101, 32, 65, 88, 87]))), (12, (.c (.str [114, 101, 97, 100, 32, 65, 88]))), (13, (.c (.str [116, 101, 108, 108, 32, 65])))]),
 W1 4 (.mv (.t 5))]) k150_3)
theorem ok150 : fnOk Tryz.prog 150 c150 23 [.t 2, .t 3] = true := by kernel_rfl

def k152_0 : ACode := .seq (.region [W1 4 (.fld 0 (.t 1)), W1 5 (.ld none (.t 4)), W1 6 (.len false (.t 5)), W1 7 (.bin .geq (.t 6) (.c (.int .i64 1))), W1 8 (.mv (.t 7)), ⟨(some 9), .fld 0 (.t 1), (some (8, true))⟩, ⟨(some 10), .ld none (.t 9), (some (8, true))⟩, ⟨(some 11), .len false (.t 10), (some (8, true))⟩, ⟨(some 12), .bin .leq (.t 11) (.c (.int .i64 3)), (some (8, true))⟩, W1 13 (.pick (.t 8) (.t 12) (.c (.bool false))), W1 14 (.mv (.t 13)), ⟨(some 15), .fld 0 (.t 1), (some (14, true))⟩, ⟨(some 16), .ld none (.t 15), (some (14, true))⟩, ⟨(some 17), .mv (.t 3), (some (14, true))⟩,
 ⟨(some 18), .call 226 [(.t 16), (.t 17)], (some (14, true))⟩, ⟨(some 19), .un .not (.t 18), (some (14, true))⟩, W1 20 (.pick (.t 14) (.t 19) (.c (.bool false))), W1 2 (.mv (.t 20))]) (.ret)

def c152 : ACode := .seq (.region [W1 1 (.box (.t 0)), W1 2 (.mv (.c (.bool false)))]) (.seq (.region [W1 3 (.mv (.c (.func 225 [])))]) k152_0)
theorem ok152 : fnOk Tryz.prog 152 c152 21 [.t 2] = true := by kernel_rfl

def k154_0 : ACode := .seq (.region [W1 7 (.fld 3 (.t 1)), W1 8 (.ld none (.t 7)), W1 9 (.call 228 [(.t 8), (.c (.int .i64 1)), (.c (.int .i64 5))]), W1 10 (.mv (.t 9)), ⟨(some 11), .fld 4 (.t 1), (some (10, true))⟩, ⟨(some 12), .ld none (.t 11), (some (10, true))⟩, ⟨(some 13), .call 228 [(.t 12), (.c (.int .i64 0)), (.c (.int .i64 4096))], (some (10, true))⟩, W1 14 (.pick (.t 10) (.t 13) (.c (.bool false))), W1 2 (.mv (.t 14))]) (.ret)

def k154_1 : ACode := .seq (.region [W1 17 (.fld 3 (.t 1)), W1 18 (.ld none (.t 17)), W1 19 (.call 132 [(.t 18)]), W1 20 (.mv (.t 19)), ⟨(some 21), .fld 4 (.t 1), (some (20, true))⟩, ⟨(some 22), .ld none (.t 21), (some (20, true))⟩, ⟨(some 23), .bin .eql (.t 22) (.c (.int .i64 0)), (some (20, true))⟩, W1 24 (.pick (.t 20) (.t 23) (.c (.bool false))), W1 2 (.mv (.t 24))]) (.ret)

def k154_2 : ACode := .seq (.region [W1 27 (.fld 3 (.t 1)), W1 28 (.ld none (.t 27)), W1 29 (.call 132 [(.t 28)]), W1 30 (.mv (.t 29)), ⟨(some 31), .fld 4 (.t 1), (some (30, true))⟩, ⟨(some 32), .ld none (.t 31), (some (30, true))⟩, ⟨(some 33), .call 228 [(.t 32), (.c (.int .i64 1)), (.c (.int .i64 65535))], (some (30, true))⟩, W1 34 (.pick (.t 30) (.t 33) (.c (.bool false))), W1 2 (.mv (.t 34))]) (.ret)

def k154_3 : ACode := .cond (.t 35) (.skip) (.region [W1 37 (.bin .eql (.t 4) (.c (.int .i64 12))), W1 35 (.mv (.t 37))])

def k154_4 : ACode := .seq (.region [W1 38 (.fld 3 (.t 1)), W1 39 (.ld none (.t 38)), W1 40 (.call 228 [(.t 39), (.c (.int .i64 0)), (.c (.int .i64 3))]), W1 41 (.mv (.t 40)), ⟨(some 42), .fld 4 (.t 1), (some (41, true))⟩, ⟨(some 43), .ld none (.t 42), (some (41, true))⟩, ⟨(some 44), .bin .eql (.t 43) (.c (.int .i64 0)), (some (41, true))⟩, W1 45 (.pick (.t 41) (.t 44) (.c (.bool false))), W1 2 (.mv (.t 45))]) (.ret)

def k154_5 : ACode := .seq (.seq (.region [W1 36 (.bin .eql (.t 4) (.c (.int .i64 11))), W1 35 (.mv (.t 36))]) k154_3) (.cond (.t 35) k154_4 (.skip))

def k154_6 : ACode := .seq (.region [W1 26 (.bin .eql (.t 4) (.c (.int .i64 3))), W1 25 (.mv (.t 26))]) (.cond (.t 25) k154_2 k154_5)

def k154_7 : ACode := .seq (.region [W1 16 (.bin .eql (.t 4) (.c (.int .i64 2))), W1 15 (.mv (.t 16))]) (.cond (.t 15) k154_1 k154_6)

def k154_8 : ACode := .block 0 ( .seq (.region [W1 6 (.bin .eql (.t 4) (.c (.int .i64 1))), W1 5 (.mv (.t 6))]) (.cond (.t 5) k154_0 k154_7))

def k154_9 : ACode := .seq (.region [W1 46 (.fld 3 (.t 1)), W1 47 (.ld none (.t 46)), W1 48 (.bin .eql (.t 47) (.c (.int .i64 0))), W1 49 (.mv (.t 48)), ⟨(some 50), .fld 4 (.t 1), (some (49, true))⟩, ⟨(some 51), .ld none (.t 50), (some (49, true))⟩, ⟨(some 52), .bin .eql (.t 51) (.c (.int .i64 0)), (some (49, true))⟩, W1 53 (.pick (.t 49) (.t 52) (.c (.bool false))), W1 2 (.mv (.t 53))]) (.ret)

def k154_10 : ACode := .seq (.seq (.region [W1 3 (.fld 0 (.t 1)), W1 4 (.ld none (.t 3))]) k154_8) k154_9

def c154 : ACode := .seq (.region [W1 1 (.box (.t 0)), W1 2 (.mv (.c (.bool false)))]) k154_10
theorem ok154 : fnOk Tryz.prog 154 c154 54 [.t 2] = true := by kernel_rfl

def k159_0 : ACode := .region [W1 19 (.mv (.t 1)), W1 20 (.mv (.t 2)), W1 21 (.fld 1 (.t 8)), ⟨none, .st 1 (.t 21) (.t 19), none⟩, W1 22 (.fld 2 (.t 8)), ⟨none, .st 1 (.t 22) (.t 20), none⟩]

def k159_1 : ACode := .cond (.t 23) (.skip) (.region [W1 26 (.bin .eql (.t 11) (.c (.int .i64 5))), W1 23 (.mv (.t 26))])

def k159_2 : ACode := .cond (.t 23) (.skip) (.seq (.region [W1 25 (.bin .eql (.t 11) (.c (.int .i64 4))), W1 23 (.mv (.t 25))]) k159_1)

def k159_3 : ACode := .seq (.region [W1 12 (.build [.int .i64 0, .int .i64 0, .int .i64 0, .int .i64 0, .int .i64 0, .int .i64 0, .int .i64 0, .bool false, .int .u64 0, .int .u64 0, .int .u64 0, .int .u64 0, .int .u64 0] []), ⟨none, .st 13 (.t 6) (.t 12), none⟩, W1 7 (.mv (.c (.bool false)))]) (.ret)

def k159_4 : ACode := .seq (.seq (.region [W1 24 (.bin .eql (.t 11) (.c (.int .i64 3))), W1 23 (.mv (.t 24))]) k159_2) (.cond (.t 23) (.skip) k159_3)

def k159_5 : ACode := .seq (.region [W1 18 (.bin .eql (.t 11) (.c (.int .i64 2))), W1 17 (.mv (.t 18))]) (.cond (.t 17) k159_0 k159_4)

def k159_6 : ACode := .cond (.t 13) (.region [W1 15 (.mv (.t 1)), W1 16 (.fld 3 (.t 8)), ⟨none, .st 1 (.t 16) (.t 15), none⟩]) k159_5

def k159_7 : ACode := .block 0 ( .seq (.region [W1 14 (.bin .eql (.t 11) (.c (.int .i64 1))), W1 13 (.mv (.t 14))]) k159_6)

def k159_8 : ACode := .seq (.region [W1 30 (.build [.int .i64 0, .int .i64 0, .int .i64 0, .int .i64 0, .int .i64 0, .int .i64 0, .int .i64 0, .bool false, .int .u64 0, .int .u64 0, .int .u64 0, .int .u64 0, .int .u64 0] []), ⟨none, .st 13 (.t 6) (.t 30), none⟩, W1 7 (.mv (.c (.bool false)))]) (.ret)

def k159_9 : ACode := .seq (.region [W1 31 (.ld (some 13) (.t 8)), ⟨none, .st 13 (.t 6) (.t 31), none⟩, W1 7 (.mv (.c (.bool true)))]) (.ret)

def k159_10 : ACode := .seq (.seq (.region [W1 27 (.ld (some 13) (.t 8)), W1 28 (.call 172 [(.t 27)]), W1 29 (.un .not (.t 28))]) (.cond (.t 29) k159_8 (.skip))) k159_9

def k159_11 : ACode := .seq (.region [W1 9 (.mv (.t 0)), W1 10 (.build [.int .i64 0, .int .i64 0, .int .i64 0, .int .i64 0, .int .i64 0, .int .i64 0, .int .i64 0, .bool false, .int .u64 0, .int .u64 0, .int .u64 0, .int .u64 0, .int .u64 0] [(0, 1, (.t 9))]), W1 8 (.new [.int .i64 0, .int .i64 0, .int .i64 0, .int .i64 0, .int .i64 0, .int .i64 0, .int .i64 0, .bool false, .int .u64 0, .int .u64 0, .int .u64 0, .int .u64 0, .int .u64 0]), ⟨none, .st 13 (.t 8) (.t 10), none⟩]) (.seq (.seq (.region [W1 11 (.mv (.t 0))]) k159_7) k159_10)

def c159 : ACode := .seq (.region [W1 6 (.new [.int .i64 0, .int .i64 0, .int .i64 0, .int .i64 0, .int .i64 0, .int .i64 0, .int .i64 0, .bool false, .int .u64 0, .int .u64 0, .int .u64 0, .int .u64 0, .int .u64 0]), W1 7 (.mv (.c (.bool false)))]) k159_11
theorem ok159 : fnOk Tryz.prog 159 c159 32 [.c 6 (some 13), .t 7] = true := by kernel_rfl

def k160_0 : ACode := .cond (.t 15) (.seq (.region [W1 4 (.mv (.c (.int .i64 0)))]) (.ret)) (.skip)

def k160_1 : ACode := .seq (.region [W1 16 (.mv (.t 1)), W1 17 (.bin .mul (.c (.int .i64 8)) (.t 16)), W1 4 (.mv (.t 17))]) (.ret)

def k160_2 : ACode := .seq (.seq (.region [W1 5 (.ld (some 3) (.t 2)), W1 6 (.call 94 [(.t 5)]), W1 7 (.un .not (.t 6)), W1 8 (.mv (.t 7)), ⟨(some 9), .mv (.t 1), (some (8, false))⟩, ⟨(some 10), .fld 0 (.t 2), (some (8, false))⟩, ⟨(some 11), .ld none (.t 10), (some (8, false))⟩, ⟨(some 12), .bin .sub (.t 11) (.c (.int .i64 1)), (some (8, false))⟩, ⟨(some 13), .call 170 [(.t 9), (.c (.int .i64 0)), (.t 12)], (some (8, false))⟩, ⟨(some 14), .un .not (.t 13), (some (8, false))⟩, W1 15 (.pick (.t 8) (.c (.bool true)) (.t 14))]) k160_0) k160_1

def c160 : ACode := .seq (.region [W1 2 (.box (.t 0)), W1 4 (.mv (.c (.int .i64 0)))]) k160_2
theorem ok160 : fnOk Tryz.prog 160 c160 18 [.t 4] = true := by kernel_rfl

def k165_0 : ACode := .seq (.region [W1 7 (.mv (.t 0)), W1 8 (.mv (.t 1)), W1 9 (.bin .geq (.t 7) (.t 8)), W1 10 (.mv (.t 9)), ⟨(some 11), .mv (.t 0), (some (10, true))⟩, ⟨(some 12), .mv (.t 2), (some (10, true))⟩, ⟨(some 13), .bin .leq (.t 11) (.t 12), (some (10, true))⟩, W1 14 (.pick (.t 10) (.t 13) (.c (.bool false))), W1 6 (.mv (.t 14))]) (.ret)

def c165 : ACode := .seq (.region [W1 6 (.mv (.c (.bool false)))]) k165_0
theorem ok165 : fnOk Tryz.prog 165 c165 15 [.t 6] = true := by kernel_rfl

def k170_0 : ACode := .seq (.region [W1 7 (.mv (.t 0)), W1 8 (.mv (.t 1)), W1 9 (.bin .geq (.t 7) (.t 8)), W1 10 (.mv (.t 9)), ⟨(some 11), .mv (.t 0), (some (10, true))⟩, ⟨(some 12), .mv (.t 2), (some (10, true))⟩, ⟨(some 13), .bin .leq (.t 11) (.t 12), (some (10, true))⟩, W1 14 (.pick (.t 10) (.t 13) (.c (.bool false))), W1 6 (.mv (.t 14))]) (.ret)

def c170 : ACode := .seq (.region [W1 6 (.mv (.c (.bool false)))]) k170_0
theorem ok170 : fnOk Tryz.prog 170 c170 15 [.t 6] = true := by kernel_rfl

def k171_0 : ACode := .seq (.region [W1 5 (.mv (.t 1)), W1 6 (.bin .geq (.t 5) (.c (.int .i64 0))), W1 7 (.mv (.t 6)), ⟨(some 8), .mv (.t 1), (some (7, true))⟩, ⟨(some 9), .fld 4 (.t 2), (some (7, true))⟩, ⟨(some 10), .ld none (.t 9), (some (7, true))⟩, ⟨(some 11), .len false (.t 10), (some (7, true))⟩, ⟨(some 12), .bin .lss (.t 8) (.t 11), (some (7, true))⟩, W1 13 (.pick (.t 7) (.t 12) (.c (.bool false))), W1 14 (.mv (.t 13)), ⟨(some 15), .fld 4 (.t 2), (some (14, true))⟩, ⟨(some 16), .ld none (.t 15), (some (14, true))⟩, ⟨(some 17), .mv (.t 1), (some (14, true))⟩,
 ⟨(some 18), .ixs 13 (.t 16) (.t 17), (some (14, true))⟩, ⟨(some 19), .fld 0 (.t 18), (some (14, true))⟩, ⟨(some 20), .ld none (.t 19), (some (14, true))⟩, ⟨(some 21), .bin .neq (.t 20) (.c (.int .i64 0)), (some (14, true))⟩, W1 22 (.pick (.t 14) (.t 21) (.c (.bool false))), W1 4 (.mv (.t 22))]) (.ret)

def c171 : ACode := .seq (.region [W1 2 (.box (.t 0)), W1 4 (.mv (.c (.bool false)))]) k171_0
theorem ok171 : fnOk Tryz.prog 171 c171 23 [.t 4] = true := by kernel_rfl

def k172_0 : ACode := .cond (.t 6) (.seq (.region [W1 2 (.mv (.c (.bool false)))]) (.ret)) (.skip)

def k172_1 : ACode := .seq (.region [W1 11 (.fld 3 (.t 1)), W1 12 (.ld none (.t 11)), W1 13 (.call 235 [(.t 12), (.c (.int .i64 1)), (.c (.int .i64 4096))]), W1 14 (.mv (.t 13)), ⟨(some 15), .fld 4 (.t 1), (some (14, true))⟩, ⟨(some 16), .ld none (.t 15), (some (14, true))⟩, ⟨(some 17), .fld 3 (.t 1), (some (14, true))⟩, ⟨(some 18), .ld none (.t 17), (some (14, true))⟩, ⟨(some 19), .call 235 [(.t 16), (.c (.int .i64 0)), (.t 18)], (some (14, true))⟩, W1 20 (.pick (.t 14) (.t 19) (.c (.bool false))), W1 2 (.mv (.t 20))]) (.ret)

def k172_2 : ACode := .seq (.drawn [(0, W1 23 (.fld 1 (.t 1))), (1, W1 24 (.ld none (.t 23))), (2, W1 25 (.call 235 [(.t 24), (.c (.int .i64 1)), (.c (.int .i64 4))])), (3, W1 26 (.mv (.t 25))), (4, ⟨(some 27), .fld 2 (.t 1), (some (26, true))⟩), (5, ⟨(some 28), .ld none (.t 27), (some (26, true))⟩), (6, ⟨(some 29), .fld 1 (.t 1), (some (26, true))⟩), (7, ⟨(some 30), .ld none (.t 29), (some (26, true))⟩), (8, ⟨(some 31), .bin .shl (.c (.int .i64 1)) (.t 30), (some (26, true))⟩), (9, ⟨(some 32), .bin .sub (.c (.int .i64 96)) (.t 31), (some (26, true))⟩),
 (10, ⟨(some 33), .call 235 [(.t 28), (.c (.int .i64 0)), (.t 32)], (some (26, true))⟩), (11, W1 34 (.pick (.t 26) (.t 33) (.c (.bool false)))), (12, W1 2 (.mv (.t 34)))] [[], [0], [1], [2, 2], [3], [4, 3], [3], [6, 3], [7, 3], [8, 3], [5, 9, 3, 3], [3, 10], [11, 10, 0, 1, 2, 3, 4, 5, 6, 7, 8, 9, 10, 11]] 0) (.ret)

def k172_3 : ACode := .seq (.region [W1 37 (.fld 6 (.t 1)), W1 38 (.ld none (.t 37)), W1 39 (.call 235 [(.t 38), (.c (.int .i64 0)), (.c (.int .i64 65535))]), W1 40 (.mv (.t 39)), ⟨(some 41), .fld 5 (.t 1), (some (40, true))⟩, ⟨(some 42), .ld none (.t 41), (some (40, true))⟩, ⟨(some 43), .call 235 [(.t 42), (.c (.int .i64 0)), (.c (.int .i64 96))], (some (40, true))⟩, W1 44 (.pick (.t 40) (.t 43) (.c (.bool false))), W1 2 (.mv (.t 44))]) (.ret)

def k172_4 : ACode := .seq (.region [W1 36 (.bin .eql (.t 8) (.c (.int .i64 3))), W1 35 (.mv (.t 36))]) (.cond (.t 35) k172_3 (.skip))

def k172_5 : ACode := .seq (.region [W1 22 (.bin .eql (.t 8) (.c (.int .i64 2))), W1 21 (.mv (.t 22))]) (.cond (.t 21) k172_2 k172_4)

def k172_6 : ACode := .block 0 ( .seq (.region [W1 10 (.bin .eql (.t 8) (.c (.int .i64 1))), W1 9 (.mv (.t 10))]) (.cond (.t 9) k172_1 k172_5))

def k172_7 : ACode := .seq (.seq (.region [W1 7 (.fld 0 (.t 1)), W1 8 (.ld none (.t 7))]) k172_6) (.seq (.region [W1 2 (.mv (.c (.bool true)))]) (.ret))

def k172_8 : ACode := .seq (.seq (.drawn [(0, W1 3 (.ld (some 13) (.t 1))), (2, W1 5 (.ld (some 13) (.t 1))), (1, W1 4 (.call 234 [(.t 3)])), (3, W1 6 (.eqs true [0, 0, 0, 0, 0, 0, 0, 1, 0, 0, 0, 0, 0] (.t 4) (.t 5)))] [[], [0], [], [1, 2]] 0) k172_0) k172_7

def c172 : ACode := .seq (.region [W1 1 (.box (.t 0)), W1 2 (.mv (.c (.bool false)))]) k172_8
theorem ok172 : fnOk Tryz.prog 172 c172 45 [.t 2] = true := by kernel_rfl

def k173_0 : ACode := .region [W1 27 (.mv (.t 5)), W1 28 (.mv (.t 6)), W1 29 (.bsl 1 1 [.int .i64 0] [(0, (.t 28))]), W1 30 (.app 1 8 (.t 27) (.t 29)), W1 5 (.mv (.t 30))]

def k173_1 : ACode := .seq (.region [W1 16 (.fld 0 (.t 7)), W1 17 (.ld (some 4) (.t 16)), W1 18 (.call 68 [(.t 17)]), W1 19 (.un .not (.t 18)), W1 20 (.mv (.t 19)), ⟨(some 21), .fld 0 (.t 7), (some (20, true))⟩, ⟨(some 22), .fld 1 (.t 21), (some (20, true))⟩, ⟨(some 23), .ld none (.t 22), (some (20, true))⟩, ⟨(some 24), .mv (.t 1), (some (20, true))⟩, ⟨(some 25), .bin .eql (.t 23) (.t 24), (some (20, true))⟩, W1 26 (.pick (.t 20) (.t 25) (.c (.bool false)))]) (.cond (.t 26) k173_0 (.skip))

def k173_2 : ACode := .seq (.block 1 ( .seq (.region [W1 13 (.mv (.t 11)), W1 14 (.ixs 5 (.t 9) (.t 11)), W1 15 (.ld (some 5) (.t 14)), W1 7 (.new [.int .i64 0, .int .i64 0, .int .i64 0, .int .i64 0, .int .i64 0]), W1 6 (.mv (.t 13)), ⟨none, .st 5 (.t 7) (.t 15), none⟩]) k173_1)) (.region [W1 31 (.bin .add (.t 11) (.c (.int .i64 1))), W1 11 (.mv (.t 31))])

def b173_3 : ACode := .seq (.region [W1 12 (.bin .lss (.t 11) (.t 10))]) (.seq (.cond (.t 12) (.skip) (.exit 0)) k173_2)

def k173_4 : ACode := .seq (.seq (.region [W1 8 (.fld 3 (.t 2)), W1 9 (.ld none (.t 8)), W1 10 (.len false (.t 9)), W1 11 (.mv (.c (.int .i64 0)))]) (.block 0 ( .loop b173_3))) (.seq (.region [W1 32 (.mv (.t 5)), W1 4 (.mv (.t 32))]) (.ret))

def c173 : ACode := .seq (.region [W1 2 (.box (.t 0)), W1 4 (.mv (.c (.lit (.slice none 0 0))))]) (.seq (.region [W1 5 (.mv (.c (.lit (.slice none 0 0))))]) k173_4)
theorem ok173 : fnOk Tryz.prog 173 c173 33 [.t 4] = true := by kernel_rfl

def k174_0 : ACode := .cond (.t 20) (.seq (.region [W1 6 (.mv (.c (.bool false)))]) (.ret)) (.skip)

def k174_1 : ACode := .seq (.region [W1 26 (.mv (.t 7)), W1 27 (.ld (some 5) (.t 3)), W1 28 (.mv (.t 2)), W1 29 (.call 237 [(.t 27), (.t 28)]), W1 30 (.mlk (.bool false) (.t 26) (.t 29)), W1 6 (.mv (.t 30))]) (.ret)

def k174_2 : ACode := .seq (.region [W1 22 (.ld (some 5) (.t 3)), W1 23 (.mv (.t 1)), W1 24 (.mv (.t 7)), W1 25 (.call 236 [(.t 22), (.t 23), (.t 24)])]) k174_1

def k174_3 : ACode := .seq (.seq (.region [W1 8 (.ld (some 5) (.t 3)), W1 9 (.mv (.t 1)), W1 10 (.call 171 [(.t 8), (.t 9)]), W1 11 (.un .not (.t 10)), W1 12 (.mv (.t 11)), ⟨(some 13), .fld 4 (.t 3), (some (12, false))⟩, ⟨(some 14), .ld none (.t 13), (some (12, false))⟩, ⟨(some 15), .mv (.t 1), (some (12, false))⟩, ⟨(some 16), .ixs 13 (.t 14) (.t 15), (some (12, false))⟩, ⟨(some 17), .fld 0 (.t 16), (some (12, false))⟩, ⟨(some 18), .ld none (.t 17), (some (12, false))⟩, ⟨(some 19), .bin .neq (.t 18) (.c (.int .i64 2)), (some (12, false))⟩, W1 20 (.pick (.t 12) (.c (.bool true)) (.t 19))])
 k174_0) (.seq (.region [W1 21 (.mkm), W1 7 (.mv (.t 21))]) k174_2)

def c174 : ACode := .seq (.region [W1 3 (.box (.t 0)), W1 6 (.mv (.c (.bool false)))]) k174_3
theorem ok174 : fnOk Tryz.prog 174 c174 31 [.t 6] = true := by kernel_rfl

def k175_0 : ACode := .seq (.region [W1 5 (.mv (.t 1)), W1 6 (.bin .geq (.t 5) (.c (.int .i64 0))), W1 7 (.mv (.t 6)), ⟨(some 8), .mv (.t 1), (some (7, true))⟩, ⟨(some 9), .fld 0 (.t 2), (some (7, true))⟩, ⟨(some 10), .ld none (.t 9), (some (7, true))⟩, ⟨(some 11), .len false (.t 10), (some (7, true))⟩, ⟨(some 12), .bin .lss (.t 8) (.t 11), (some (7, true))⟩, W1 13 (.pick (.t 7) (.t 12) (.c (.bool false))), W1 14 (.mv (.t 13)), ⟨(some 15), .fld 0 (.t 2), (some (14, true))⟩, ⟨(some 16), .ld none (.t 15), (some (14, true))⟩, ⟨(some 17), .mv (.t 1), (some (14, true))⟩,
 ⟨(some 18), .ixs 1 (.t 16) (.t 17), (some (14, true))⟩, ⟨(some 19), .ld none (.t 18), (some (14, true))⟩, ⟨(some 20), .bin .neq (.t 19) (.c (.int .i64 (-2))), (some (14, true))⟩, W1 21 (.pick (.t 14) (.t 20) (.c (.bool false))), W1 4 (.mv (.t 21))]) (.ret)

def c175 : ACode := .seq (.region [W1 2 (.box (.t 0)), W1 4 (.mv (.c (.bool false)))]) k175_0
theorem ok175 : fnOk Tryz.prog 175 c175 22 [.t 4] = true := by kernel_rfl

def k176_0 : ACode := .seq (.region [W1 5 (.mv (.t 0)), W1 6 (.call 238 [(.t 5)]), W1 7 (.mv (.t 1)), W1 8 (.call 238 [(.t 7)]), W1 9 (.bin .andNot (.t 6) (.t 8)), W1 4 (.mv (.t 9))]) (.ret)

def c176 : ACode := .seq (.region [W1 4 (.mv (.c (.int .i64 0)))]) k176_0
theorem ok176 : fnOk Tryz.prog 176 c176 10 [.t 4] = true := by kernel_rfl

def k177_0 : ACode := .seq (.region [W1 20 (.mv (.t 9)), W1 6 (.mv (.c (.int .i64 0))), W1 7 (.mv (.t 20))]) (.ret)

def k177_1 : ACode := .cond (.t 21) (.seq (.region [W1 6 (.mv (.c (.int .i64 0))), W1 7 (.mv (.c (.int .i64 5)))]) (.ret)) (.skip)

def k177_2 : ACode := .seq (.region [W1 22 (.fld 3 (.t 3)), W1 23 (.ld none (.t 22)), W1 24 (.mv (.t 8)), W1 25 (.ixs 5 (.t 23) (.t 24)), W1 26 (.fld 0 (.t 25)), W1 27 (.ld (some 4) (.t 26)), W1 28 (.call 68 [(.t 27)]), W1 29 (.un .not (.t 28)), W1 21 (.mv (.t 29))]) k177_1

def k177_3 : ACode := .seq (.region [W1 30 (.mv (.t 8)), W1 6 (.mv (.t 30)), W1 7 (.mv (.c (.int .i64 0)))]) (.ret)

def k177_4 : ACode := .seq (.block 0 ( .seq (.region [W1 18 (.mv (.t 9)), W1 19 (.bin .neq (.t 18) (.c (.int .i64 0))), W1 17 (.mv (.t 19))]) (.cond (.t 17) k177_0 k177_2))) k177_3

def k177_5 : ACode := .seq (.region [W1 11 (.ld (some 5) (.t 3)), W1 12 (.mv (.t 1)), W1 13 (.ld (some 1) (.t 5)), W1 14 (.call 141 [(.t 11), (.t 12), (.t 13)]), W1 10 (.mv (.t 14)), W1 15 (.ext (.t 10) 0), W1 16 (.ext (.t 10) 1), W1 8 (.mv (.t 15)), W1 9 (.mv (.t 16))]) k177_4

def c177 : ACode := .seq (.region [W1 3 (.box (.t 0)), W1 5 (.box (.t 2)), W1 6 (.mv (.c (.int .i64 0))), W1 7 (.mv (.c (.int .i64 0)))]) k177_5
theorem ok177 : fnOk Tryz.prog 177 c177 31 [.t 6, .t 7] = true := by kernel_rfl

def k206_0 : ACode := .seq (.region [W1 11 (.mv (.t 1)), W1 4 (.mv (.t 11)), W1 5 (.mv (.c (.bool true)))]) (.ret)

def k206_1 : ACode := .seq (.region [W1 9 (.mv (.t 1)), W1 10 (.call 235 [(.t 9), (.c (.int .i64 1)), (.c (.int .i64 4096))])]) (.cond (.t 10) k206_0 (.skip))

def k206_2 : ACode := .seq (.region [W1 16 (.mv (.t 1)), W1 17 (.bin .shl (.c (.int .i64 1)) (.t 16)), W1 4 (.mv (.t 17)), W1 5 (.mv (.c (.bool true)))]) (.ret)

def k206_3 : ACode := .seq (.region [W1 14 (.mv (.t 1)), W1 15 (.call 235 [(.t 14), (.c (.int .i64 1)), (.c (.int .i64 4))])]) (.cond (.t 15) k206_2 (.skip))

def k206_4 : ACode := .cond (.t 18) (.skip) (.region [W1 20 (.bin .eql (.t 6) (.c (.int .i64 4))), W1 18 (.mv (.t 20))])

def k206_5 : ACode := .cond (.t 21) (.seq (.region [W1 4 (.mv (.c (.int .i64 2))), W1 5 (.mv (.c (.bool true)))]) (.ret)) (.skip)

def k206_6 : ACode := .cond (.t 18) (.seq (.region [W1 4 (.mv (.c (.int .i64 1))), W1 5 (.mv (.c (.bool true)))]) (.ret)) (.seq (.region [W1 22 (.bin .eql (.t 6) (.c (.int .i64 5))), W1 21 (.mv (.t 22))]) k206_5)

def k206_7 : ACode := .seq (.seq (.region [W1 19 (.bin .eql (.t 6) (.c (.int .i64 3))), W1 18 (.mv (.t 19))]) k206_4) k206_6

def k206_8 : ACode := .seq (.region [W1 13 (.bin .eql (.t 6) (.c (.int .i64 2))), W1 12 (.mv (.t 13))]) (.cond (.t 12) k206_3 k206_7)

def k206_9 : ACode := .block 0 ( .seq (.region [W1 8 (.bin .eql (.t 6) (.c (.int .i64 1))), W1 7 (.mv (.t 8))]) (.cond (.t 7) k206_1 k206_8))

def k206_10 : ACode := .seq (.seq (.region [W1 6 (.mv (.t 0))]) k206_9) (.seq (.region [W1 4 (.mv (.c (.int .i64 0))), W1 5 (.mv (.c (.bool false)))]) (.ret))

def c206 : ACode := .seq (.region [W1 4 (.mv (.c (.int .i64 0))), W1 5 (.mv (.c (.bool false)))]) k206_10
theorem ok206 : fnOk Tryz.prog 206 c206 23 [.t 4, .t 5] = true := by kernel_rfl

def k208_0 : ACode := .cond (.t 5) (.seq (.region [W1 2 (.mv (.c (.int .i64 (-1))))]) (.ret)) (.skip)

def k208_1 : ACode := .seq (.region [W1 6 (.fld 4 (.t 1)), W1 7 (.ld none (.t 6)), W1 8 (.call 246 [(.t 7), (.c (.func 247 []))]), W1 2 (.mv (.t 8))]) (.ret)

def k208_2 : ACode := .seq (.seq (.region [W1 3 (.ld (some 5) (.t 1)), W1 4 (.call 26 [(.t 3)]), W1 5 (.un .not (.t 4))]) k208_0) k208_1

def c208 : ACode := .seq (.region [W1 1 (.box (.t 0)), W1 2 (.mv (.c (.int .i64 0)))]) k208_2
theorem ok208 : fnOk Tryz.prog 208 c208 9 [.t 2] = true := by kernel_rfl

def k209_0 : ACode := .cond (.t 18) (.seq (.region [W1 4 (.mv (.c (.int .i64 0))), W1 5 (.mv (.c (.bool false)))]) (.ret)) (.skip)

def k209_1 : ACode := .seq (.region [W1 35 (.mv (.t 7)), W1 36 (.bin .add (.t 35) (.c (.int .i64 1))), W1 37 (.mv (.t 6)), W1 38 (.bin .sub (.t 36) (.t 37)), W1 4 (.mv (.t 38)), W1 5 (.mv (.c (.bool true)))]) (.ret)

def k209_2 : ACode := .seq (.region [W1 31 (.mv (.t 6)), W1 32 (.mv (.t 1)), W1 33 (.bin .shl (.c (.int .i64 1)) (.t 32)), W1 34 (.bin .eql (.t 31) (.t 33))]) (.cond (.t 34) k209_1 (.skip))

def k209_3 : ACode := .seq (.seq (.region [W1 27 (.ld (some 5) (.t 2)), W1 28 (.mv (.t 7)), W1 29 (.call 237 [(.t 27), (.t 28)]), W1 30 (.bin .neq (.t 29) (.c (.int .i64 (-1))))]) (.cond (.t 30) (.region [W1 6 (.mv (.c (.int .i64 0)))]) (.skip))) k209_2

def k209_4 : ACode := .seq (.region [W1 25 (.mv (.t 6)), W1 26 (.bin .add (.t 25) (.c (.int .i64 1))), W1 6 (.mv (.t 26))]) k209_3

def k209_5 : ACode := .seq (.block 1 ( .seq (.region [W1 24 (.mv (.t 22)), W1 7 (.mv (.t 24))]) k209_4)) (.region [W1 39 (.bin .add (.t 22) (.c (.int .i64 1))), W1 22 (.mv (.t 39))])

def b209_6 : ACode := .seq (.region [W1 23 (.bin .lss (.t 22) (.t 21))]) (.seq (.cond (.t 23) (.skip) (.exit 0)) k209_5)

def k209_7 : ACode := .seq (.seq (.region [W1 19 (.fld 3 (.t 2)), W1 20 (.ld none (.t 19)), W1 21 (.len false (.t 20)), W1 22 (.mv (.c (.int .i64 0)))]) (.block 0 ( .loop b209_6))) (.seq (.region [W1 4 (.mv (.c (.int .i64 0))), W1 5 (.mv (.c (.bool false)))]) (.ret))

def k209_8 : ACode := .seq (.seq (.region [W1 8 (.ld (some 5) (.t 2)), W1 9 (.call 26 [(.t 8)]), W1 10 (.un .not (.t 9)), W1 11 (.mv (.t 10)), ⟨(some 12), .mv (.t 1), (some (11, false))⟩, ⟨(some 13), .bin .lss (.t 12) (.c (.int .i64 1)), (some (11, false))⟩, W1 14 (.pick (.t 11) (.c (.bool true)) (.t 13)), W1 15 (.mv (.t 14)), ⟨(some 16), .mv (.t 1), (some (15, false))⟩, ⟨(some 17), .bin .gtr (.t 16) (.c (.int .i64 4)), (some (15, false))⟩, W1 18 (.pick (.t 15) (.c (.bool true)) (.t 17))]) k209_0) (.seq (.region [W1 6 (.mv (.c (.int .i64 0)))]) k209_7)

def c209 : ACode := .seq (.region [W1 2 (.box (.t 0)), W1 4 (.mv (.c (.int .i64 0))), W1 5 (.mv (.c (.bool false)))]) k209_8
theorem ok209 : fnOk Tryz.prog 209 c209 40 [.t 4, .t 5] = true := by kernel_rfl

def k210_0 : ACode := .cond (.t 7) (.seq (.region [W1 8 (.build [.int .i64 0, .int .i64 0, .int .i64 0, .int .i64 0] []), ⟨none, .st 4 (.t 4) (.t 8), none⟩]) (.ret)) (.skip)

def k210_1 : ACode := .seq (.region [W1 9 (.fld 2 (.t 2)), W1 10 (.ld none (.t 9)), W1 11 (.mv (.t 1)), W1 12 (.call 248 [(.t 10), (.t 11)]), W1 13 (.fld 2 (.t 2)), ⟨none, .st 1 (.t 13) (.t 12), none⟩]) (.seq (.region [W1 14 (.ld (some 4) (.t 2)), ⟨none, .st 4 (.t 4) (.t 14), none⟩]) (.ret))

def k210_2 : ACode := .seq (.seq (.region [W1 5 (.ld (some 4) (.t 2)), W1 6 (.call 51 [(.t 5)]), W1 7 (.un .not (.t 6))]) k210_0) k210_1

def c210 : ACode := .seq (.region [W1 2 (.box (.t 0)), W1 4 (.new [.int .i64 0, .int .i64 0, .int .i64 0, .int .i64 0])]) k210_2
theorem ok210 : fnOk Tryz.prog 210 c210 15 [.c 4 (some 4)] = true := by kernel_rfl

def k211_0 : ACode := .cond (.t 6) (.skip) (.region [W1 13 (.mv (.t 1)), W1 14 (.bin .eql (.t 13) (.c (.int .i64 0))), W1 6 (.mv (.t 14))])

def k211_1 : ACode := .seq (.region [W1 10 (.mv (.t 1)), W1 11 (.call 133 [(.t 10)]), W1 12 (.un .not (.t 11)), W1 6 (.mv (.t 12))]) k211_0

def k211_2 : ACode := .seq (.region [W1 15 (.build [.int .i64 0, .int .i64 0, .int .i64 0, .int .i64 0] []), ⟨none, .st 4 (.t 4) (.t 15), none⟩, W1 5 (.mv (.c (.int .i64 1)))]) (.ret)

def k211_3 : ACode := .seq (.region [W1 21 (.build [.int .i64 0, .int .i64 0, .int .i64 0, .int .i64 0] []), ⟨none, .st 4 (.t 4) (.t 21), none⟩, W1 5 (.mv (.c (.int .i64 7)))]) (.ret)

def k211_4 : ACode := .seq (.region [W1 26 (.build [.int .i64 0, .int .i64 0, .int .i64 0, .int .i64 0] []), ⟨none, .st 4 (.t 4) (.t 26), none⟩, W1 5 (.mv (.c (.int .i64 5)))]) (.ret)

def k211_5 : ACode := .seq (.region [W1 23 (.fld 3 (.t 2)), W1 24 (.ld none (.t 23)), W1 25 (.bin .neq (.t 24) (.c (.int .i64 0))), W1 22 (.mv (.t 25))]) (.cond (.t 22) k211_4 (.skip))

def k211_6 : ACode := .seq (.region [W1 17 (.fld 0 (.t 2)), W1 18 (.ld none (.t 17)), W1 19 (.call 134 [(.t 18)]), W1 20 (.un .not (.t 19)), W1 16 (.mv (.t 20))]) (.cond (.t 16) k211_3 k211_5)

def k211_7 : ACode := .seq (.region [W1 29 (.ld (some 4) (.t 2)), ⟨none, .st 4 (.t 4) (.t 29), none⟩, W1 5 (.mv (.c (.int .i64 0)))]) (.ret)

def k211_8 : ACode := .seq (.region [W1 27 (.mv (.t 1)), W1 28 (.fld 3 (.t 2)), ⟨none, .st 1 (.t 28) (.t 27), none⟩]) k211_7

def k211_9 : ACode := .seq (.block 0 ( .seq (.seq (.region [W1 7 (.ld (some 4) (.t 2)), W1 8 (.call 51 [(.t 7)]), W1 9 (.un .not (.t 8)), W1 6 (.mv (.t 9))]) (.cond (.t 6) (.skip) k211_1)) (.cond (.t 6) k211_2 k211_6))) k211_8

def c211 : ACode := .seq (.region [W1 2 (.box (.t 0)), W1 4 (.new [.int .i64 0, .int .i64 0, .int .i64 0, .int .i64 0]), W1 5 (.mv (.c (.int .i64 0)))]) k211_9
theorem ok211 : fnOk Tryz.prog 211 c211 30 [.c 4 (some 4), .t 5] = true := by kernel_rfl

def k214_0 : ACode := .seq (.region [W1 5 (.ld (some 1) (.t 2)), W1 6 (.call 99 [(.t 5)]), W1 7 (.mv (.t 6)), ⟨(some 8), .ld (some 1) (.t 2), (some (7, true))⟩, ⟨(some 9), .mv (.t 1), (some (7, true))⟩, ⟨(some 10), .call 175 [(.t 8), (.t 9)], (some (7, true))⟩, W1 11 (.pick (.t 7) (.t 10) (.c (.bool false))), W1 4 (.mv (.t 11))]) (.ret)

def c214 : ACode := .seq (.region [W1 2 (.box (.t 0)), W1 4 (.mv (.c (.bool false)))]) k214_0
theorem ok214 : fnOk Tryz.prog 214 c214 12 [.t 4] = true := by kernel_rfl

def k217_0 : ACode := .seq (.region [W1 22 (.build [.int .i64 0, .int .i64 0, .int .i64 0, .int .i64 0, .int .i64 0, .int .i64 0, .int .i64 0, .bool false, .int .u64 0, .int .u64 0, .int .u64 0, .int .u64 0, .int .u64 0] []), ⟨none, .st 13 (.t 4) (.t 22), none⟩, W1 5 (.mv (.c (.bool false)))]) (.ret)

def k217_1 : ACode := .seq (.region [W1 23 (.fld 4 (.t 2)), W1 24 (.ld none (.t 23)), W1 25 (.fld 1 (.t 6)), W1 26 (.ld none (.t 25)), W1 27 (.ixs 13 (.t 24) (.t 26)), W1 28 (.ld (some 13) (.t 27)), ⟨none, .st 13 (.t 4) (.t 28), none⟩, W1 5 (.mv (.c (.bool true)))]) (.ret)

def k217_2 : ACode := .seq (.seq (.region [W1 13 (.fld 0 (.t 6)), W1 14 (.ld none (.t 13)), W1 15 (.bin .neq (.t 14) (.c (.int .i64 2))), W1 16 (.mv (.t 15)), ⟨(some 17), .fld 2 (.t 6), (some (16, false))⟩, ⟨(some 18), .ld none (.t 17), (some (16, false))⟩, ⟨(some 19), .call 104 [(.c (.int .i64 1)), (.t 18)], (some (16, false))⟩, ⟨(some 20), .un .not (.t 19), (some (16, false))⟩, W1 21 (.pick (.t 16) (.c (.bool true)) (.t 20))]) (.cond (.t 21) k217_0 (.skip))) k217_1

def k217_3 : ACode := .seq (.region [W1 7 (.fld 3 (.t 2)), W1 8 (.ld none (.t 7)), W1 9 (.mv (.t 1)), W1 10 (.ixs 5 (.t 8) (.t 9)), W1 11 (.fld 0 (.t 10)), W1 12 (.ld (some 4) (.t 11)), W1 6 (.new [.int .i64 0, .int .i64 0, .int .i64 0, .int .i64 0]), ⟨none, .st 4 (.t 6) (.t 12), none⟩]) k217_2

def c217 : ACode := .seq (.region [W1 2 (.box (.t 0)), W1 4 (.new [.int .i64 0, .int .i64 0, .int .i64 0, .int .i64 0, .int .i64 0, .int .i64 0, .int .i64 0, .bool false, .int .u64 0, .int .u64 0, .int .u64 0, .int .u64 0, .int .u64 0]), W1 5 (.mv (.c (.bool false)))]) k217_3
theorem ok217 : fnOk Tryz.prog 217 c217 29 [.c 4 (some 13), .t 5] = true := by kernel_rfl

def k218_0 : ACode := .cond (.t 9) (.seq (.region [W1 4 (.mv (.c (.int .i64 (-1))))]) (.ret)) (.skip)

def k218_1 : ACode := .seq (.region [W1 10 (.fld 2 (.t 2)), W1 11 (.ld none (.t 10)), W1 12 (.mv (.t 1)), W1 13 (.bin .add (.t 11) (.t 12)), W1 4 (.mv (.t 13))]) (.ret)

def k218_2 : ACode := .seq (.seq (.region [W1 5 (.mv (.t 1)), W1 6 (.fld 1 (.t 2)), W1 7 (.ld none (.t 6)), W1 8 (.bin .shl (.c (.int .i64 1)) (.t 7)), W1 9 (.bin .geq (.t 5) (.t 8))]) k218_0) k218_1

def c218 : ACode := .seq (.region [W1 2 (.box (.t 0)), W1 4 (.mv (.c (.int .i64 0)))]) k218_2
theorem ok218 : fnOk Tryz.prog 218 c218 14 [.t 4] = true := by kernel_rfl

def k221_0 : ACode := .drawn [(1, W1 19 (.ld (some 1) (.t 2))), (2, W1 20 (.ld (some 1) (.t 2))), (3, W1 21 (.mv (.t 7))), (4, W1 22 (.call 222 [(.t 20), (.t 21)])), (5, W1 23 (.call 221 [(.t 19), (.t 22)])), (0, W1 18 (.mv (.t 5))), (6, W1 24 (.app 1 8 (.t 18) (.t 23))), (7, W1 5 (.mv (.t 24)))] [[], [], [], [], [2, 3], [1, 4, 4], [0, 5, 5], [6, 6, 0, 1, 2, 3, 4, 5, 6]] 0

def k221_1 : ACode := .seq (.region [W1 14 (.mv (.t 5)), W1 15 (.mv (.t 7)), W1 16 (.bsl 1 1 [.int .i64 0] [(0, (.t 15))]), W1 17 (.app 1 8 (.t 14) (.t 16)), W1 5 (.mv (.t 17))]) k221_0

def k221_2 : ACode := .seq (.block 1 ( .seq (.region [W1 12 (.ixs 1 (.t 8) (.t 10)), W1 13 (.ld none (.t 12)), W1 7 (.mv (.t 13))]) k221_1)) (.region [W1 25 (.bin .add (.t 10) (.c (.int .i64 1))), W1 10 (.mv (.t 25))])

def b221_3 : ACode := .seq (.region [W1 11 (.bin .lss (.t 10) (.t 9))]) (.seq (.cond (.t 11) (.skip) (.exit 0)) k221_2)

def k221_4 : ACode := .seq (.seq (.region [W1 8 (.mv (.t 1)), W1 9 (.len false (.t 8)), W1 10 (.mv (.c (.int .i64 0)))]) (.block 0 ( .loop b221_3))) (.seq (.region [W1 26 (.mv (.t 5)), W1 4 (.mv (.t 26))]) (.ret))

def c221 : ACode := .seq (.region [W1 2 (.box (.t 0)), W1 4 (.mv (.c (.lit (.slice none 0 0))))]) (.seq (.region [W1 5 (.mv (.c (.lit (.slice none 0 0))))]) k221_4)
theorem ok221 : fnOk Tryz.prog 221 c221 27 [.t 4] = true := by kernel_rfl

def k222_0 : ACode := .region [W1 19 (.mv (.t 5)), W1 20 (.mv (.t 6)), W1 21 (.bsl 1 1 [.int .i64 0] [(0, (.t 20))]), W1 22 (.app 1 8 (.t 19) (.t 21)), W1 5 (.mv (.t 22))]

def k222_1 : ACode := .seq (.region [W1 16 (.mv (.t 7)), W1 17 (.mv (.t 1)), W1 18 (.bin .eql (.t 16) (.t 17))]) (.cond (.t 18) k222_0 (.skip))

def k222_2 : ACode := .seq (.block 1 ( .seq (.region [W1 13 (.mv (.t 11)), W1 14 (.ixs 1 (.t 9) (.t 11)), W1 15 (.ld none (.t 14)), W1 6 (.mv (.t 13)), W1 7 (.mv (.t 15))]) k222_1)) (.region [W1 23 (.bin .add (.t 11) (.c (.int .i64 1))), W1 11 (.mv (.t 23))])

def b222_3 : ACode := .seq (.region [W1 12 (.bin .lss (.t 11) (.t 10))]) (.seq (.cond (.t 12) (.skip) (.exit 0)) k222_2)

def k222_4 : ACode := .seq (.seq (.region [W1 8 (.fld 0 (.t 2)), W1 9 (.ld none (.t 8)), W1 10 (.len false (.t 9)), W1 11 (.mv (.c (.int .i64 0)))]) (.block 0 ( .loop b222_3))) (.seq (.region [W1 24 (.mv (.t 5)), W1 4 (.mv (.t 24))]) (.ret))

def c222 : ACode := .seq (.region [W1 2 (.box (.t 0)), W1 4 (.mv (.c (.lit (.slice none 0 0))))]) (.seq (.region [W1 5 (.mv (.c (.lit (.slice none 0 0))))]) k222_4)
theorem ok222 : fnOk Tryz.prog 222 c222 25 [.t 4] = true := by kernel_rfl

def k225_0 : ACode := .seq (.region [W1 3 (.mv (.t 0)), W1 4 (.bin .lss (.t 3) (.c (.int .i64 0))), W1 5 (.mv (.t 4)), ⟨(some 6), .mv (.t 0), (some (5, false))⟩, ⟨(some 7), .bin .gtr (.t 6) (.c (.int .i64 15)), (some (5, false))⟩, W1 8 (.pick (.t 5) (.c (.bool true)) (.t 7)), W1 2 (.mv (.t 8))]) (.ret)

def c225 : ACode := .seq (.region [W1 2 (.mv (.c (.bool false)))]) k225_0
theorem ok225 : fnOk Tryz.prog 225 c225 9 [.t 2] = true := by kernel_rfl

def k228_0 : ACode := .seq (.region [W1 7 (.mv (.t 0)), W1 8 (.mv (.t 1)), W1 9 (.bin .geq (.t 7) (.t 8)), W1 10 (.mv (.t 9)), ⟨(some 11), .mv (.t 0), (some (10, true))⟩, ⟨(some 12), .mv (.t 2), (some (10, true))⟩, ⟨(some 13), .bin .leq (.t 11) (.t 12), (some (10, true))⟩, W1 14 (.pick (.t 10) (.t 13) (.c (.bool false))), W1 6 (.mv (.t 14))]) (.ret)

def c228 : ACode := .seq (.region [W1 6 (.mv (.c (.bool false)))]) k228_0
theorem ok228 : fnOk Tryz.prog 228 c228 15 [.t 6] = true := by kernel_rfl

def k234_0 : ACode := .seq (.region [W1 7 (.fld 0 (.t 1)), W1 8 (.ld none (.t 7)), W1 9 (.fld 3 (.t 1)), W1 10 (.ld none (.t 9)), W1 11 (.fld 4 (.t 1)), W1 12 (.ld none (.t 11)), W1 13 (.build [.int .i64 0, .int .i64 0, .int .i64 0, .int .i64 0, .int .i64 0, .int .i64 0, .int .i64 0, .bool false, .int .u64 0, .int .u64 0, .int .u64 0, .int .u64 0, .int .u64 0] [(0, 1, (.t 8)), (3, 1, (.t 10)), (4, 1, (.t 12))]), ⟨none, .st 13 (.t 2) (.t 13), none⟩]) (.ret)

def k234_1 : ACode := .seq (.region [W1 16 (.fld 0 (.t 1)), W1 17 (.ld none (.t 16)), W1 18 (.fld 1 (.t 1)), W1 19 (.ld none (.t 18)), W1 20 (.fld 2 (.t 1)), W1 21 (.ld none (.t 20)), W1 22 (.build [.int .i64 0, .int .i64 0, .int .i64 0, .int .i64 0, .int .i64 0, .int .i64 0, .int .i64 0, .bool false, .int .u64 0, .int .u64 0, .int .u64 0, .int .u64 0, .int .u64 0] [(0, 1, (.t 17)), (1, 1, (.t 19)), (2, 1, (.t 21))]), ⟨none, .st 13 (.t 2) (.t 22), none⟩]) (.ret)

def k234_2 : ACode := .seq (.region [W1 28 (.fld 0 (.t 1)), W1 29 (.ld none (.t 28)), W1 30 (.build [.int .i64 0, .int .i64 0, .int .i64 0, .int .i64 0, .int .i64 0, .int .i64 0, .int .i64 0, .bool false, .int .u64 0, .int .u64 0, .int .u64 0, .int .u64 0, .int .u64 0] [(0, 1, (.t 29))]), ⟨none, .st 13 (.t 2) (.t 30), none⟩]) (.ret)

def k234_3 : ACode := .seq (.region [W1 31 (.fld 0 (.t 1)), W1 32 (.ld none (.t 31)), W1 33 (.fld 8 (.t 1)), W1 34 (.ld none (.t 33)), W1 35 (.fld 6 (.t 1)), W1 36 (.ld none (.t 35)), W1 37 (.fld 5 (.t 1)), W1 38 (.ld none (.t 37)), W1 39 (.build [.int .i64 0, .int .i64 0, .int .i64 0, .int .i64 0, .int .i64 0, .int .i64 0, .int .i64 0, .bool false, .int .u64 0, .int .u64 0, .int .u64 0, .int .u64 0, .int .u64 0] [(0, 1, (.t 32)), (7, 1, (.c (.bool true))), (8, 1, (.t 34)), (6, 1, (.t 36)), (5, 1, (.t 38))]), ⟨none, .st 13 (.t 2) (.t 39), none⟩]) (.ret)

def k234_4 : ACode := .seq (.seq (.region [W1 25 (.fld 7 (.t 1)), W1 26 (.ld none (.t 25)), W1 27 (.un .not (.t 26))]) (.cond (.t 27) k234_2 (.skip))) k234_3

def k234_5 : ACode := .seq (.region [W1 42 (.fld 0 (.t 1)), W1 43 (.ld none (.t 42)), W1 44 (.fld 8 (.t 1)), W1 45 (.ld none (.t 44)), W1 46 (.build [.int .i64 0, .int .i64 0, .int .i64 0, .int .i64 0, .int .i64 0, .int .i64 0, .int .i64 0, .bool false, .int .u64 0, .int .u64 0, .int .u64 0, .int .u64 0, .int .u64 0] [(0, 1, (.t 43)), (8, 1, (.t 45))]), ⟨none, .st 13 (.t 2) (.t 46), none⟩]) (.ret)

def k234_6 : ACode := .seq (.region [W1 49 (.fld 0 (.t 1)), W1 50 (.ld none (.t 49)), W1 51 (.fld 9 (.t 1)), W1 52 (.ld (some 4) (.t 51)), W1 53 (.build [.int .i64 0, .int .i64 0, .int .i64 0, .int .i64 0, .int .i64 0, .int .i64 0, .int .i64 0, .bool false, .int .u64 0, .int .u64 0, .int .u64 0, .int .u64 0, .int .u64 0] [(0, 1, (.t 50)), (9, 4, (.t 52))]), ⟨none, .st 13 (.t 2) (.t 53), none⟩]) (.ret)

def k234_7 : ACode := .seq (.region [W1 48 (.bin .eql (.t 4) (.c (.int .i64 5))), W1 47 (.mv (.t 48))]) (.cond (.t 47) k234_6 (.skip))

def k234_8 : ACode := .seq (.region [W1 41 (.bin .eql (.t 4) (.c (.int .i64 4))), W1 40 (.mv (.t 41))]) (.cond (.t 40) k234_5 k234_7)

def k234_9 : ACode := .seq (.region [W1 24 (.bin .eql (.t 4) (.c (.int .i64 3))), W1 23 (.mv (.t 24))]) (.cond (.t 23) k234_4 k234_8)

def k234_10 : ACode := .seq (.region [W1 15 (.bin .eql (.t 4) (.c (.int .i64 2))), W1 14 (.mv (.t 15))]) (.cond (.t 14) k234_1 k234_9)

def k234_11 : ACode := .block 0 ( .seq (.region [W1 6 (.bin .eql (.t 4) (.c (.int .i64 1))), W1 5 (.mv (.t 6))]) (.cond (.t 5) k234_0 k234_10))

def k234_12 : ACode := .seq (.seq (.region [W1 3 (.fld 0 (.t 1)), W1 4 (.ld none (.t 3))]) k234_11) (.seq (.region [W1 54 (.build [.int .i64 0, .int .i64 0, .int .i64 0, .int .i64 0, .int .i64 0, .int .i64 0, .int .i64 0, .bool false, .int .u64 0, .int .u64 0, .int .u64 0, .int .u64 0, .int .u64 0] []), ⟨none, .st 13 (.t 2) (.t 54), none⟩]) (.ret))

def c234 : ACode := .seq (.region [W1 1 (.box (.t 0)), W1 2 (.new [.int .i64 0, .int .i64 0, .int .i64 0, .int .i64 0, .int .i64 0, .int .i64 0, .int .i64 0, .bool false, .int .u64 0, .int .u64 0, .int .u64 0, .int .u64 0, .int .u64 0])]) k234_12
theorem ok234 : fnOk Tryz.prog 234 c234 55 [.c 2 (some 13)] = true := by kernel_rfl

def k235_0 : ACode := .seq (.region [W1 7 (.mv (.t 0)), W1 8 (.mv (.t 1)), W1 9 (.bin .geq (.t 7) (.t 8)), W1 10 (.mv (.t 9)), ⟨(some 11), .mv (.t 0), (some (10, true))⟩, ⟨(some 12), .mv (.t 2), (some (10, true))⟩, ⟨(some 13), .bin .leq (.t 11) (.t 12), (some (10, true))⟩, W1 14 (.pick (.t 10) (.t 13) (.c (.bool false))), W1 6 (.mv (.t 14))]) (.ret)

def c235 : ACode := .seq (.region [W1 6 (.mv (.c (.bool false)))]) k235_0
theorem ok235 : fnOk Tryz.prog 235 c235 15 [.t 6] = true := by kernel_rfl

def k236_0 : ACode := .region [W1 41 (.ld (some 5) (.t 3)), W1 42 (.fld 0 (.t 7)), W1 43 (.fld 1 (.t 42)), W1 44 (.ld none (.t 43)), W1 45 (.mv (.t 2)), W1 46 (.call 236 [(.t 41), (.t 44), (.t 45)])]

def k236_1 : ACode := .seq (.region [W1 21 (.fld 0 (.t 7)), W1 22 (.fld 0 (.t 21)), W1 23 (.ld none (.t 22)), W1 24 (.bin .eql (.t 23) (.c (.int .i64 2))), W1 25 (.mv (.t 24)), ⟨(some 26), .fld 4 (.t 3), (some (25, true))⟩, ⟨(some 27), .ld none (.t 26), (some (25, true))⟩, ⟨(some 28), .mv (.t 1), (some (25, true))⟩, ⟨(some 29), .ixs 13 (.t 27) (.t 28), (some (25, true))⟩, ⟨(some 30), .ld (some 13) (.t 29), (some (25, true))⟩, ⟨(some 31), .mv (.t 6), (some (25, true))⟩, ⟨(some 32), .call 272 [(.t 30), (.t 31)], (some (25, true))⟩, W1 33 (.pick (.t 25) (.t 32) (.c (.bool false))),
 W1 34 (.mv (.t 33)), ⟨(some 35), .ld (some 5) (.t 3), (some (34, true))⟩, ⟨(some 36), .fld 0 (.t 7), (some (34, true))⟩, ⟨(some 37), .fld 1 (.t 36), (some (34, true))⟩, ⟨(some 38), .ld none (.t 37), (some (34, true))⟩, ⟨(some 39), .call 171 [(.t 35), (.t 38)], (some (34, true))⟩, W1 40 (.pick (.t 34) (.t 39) (.c (.bool false)))]) (.cond (.t 40) k236_0 (.skip))

def k236_2 : ACode := .seq (.block 1 ( .seq (.region [W1 18 (.mv (.t 16)), W1 19 (.ixs 5 (.t 14) (.t 16)), W1 20 (.ld (some 5) (.t 19)), W1 7 (.new [.int .i64 0, .int .i64 0, .int .i64 0, .int .i64 0, .int .i64 0]), W1 6 (.mv (.t 18)), ⟨none, .st 5 (.t 7) (.t 20), none⟩]) k236_1)) (.region [W1 47 (.bin .add (.t 16) (.c (.int .i64 1))), W1 16 (.mv (.t 47))])

def b236_3 : ACode := .seq (.region [W1 17 (.bin .lss (.t 16) (.t 15))]) (.seq (.cond (.t 17) (.skip) (.exit 0)) k236_2)

def k236_4 : ACode := .seq (.region [W1 13 (.fld 3 (.t 3)), W1 14 (.ld none (.t 13)), W1 15 (.len false (.t 14)), W1 16 (.mv (.c (.int .i64 0)))]) (.block 0 ( .loop b236_3))

def k236_5 : ACode := .seq (.region [W1 11 (.mv (.t 2)), W1 12 (.mv (.t 1)), ⟨none, .mup (.t 11) (.t 12) (.c (.bool true)), none⟩]) k236_4

def k236_6 : ACode := .seq (.seq (.region [W1 8 (.mv (.t 2)), W1 9 (.mv (.t 1)), W1 10 (.mlk (.bool false) (.t 8) (.t 9))]) (.cond (.t 10) (.ret) (.skip))) k236_5

def c236 : ACode := .seq (.region [W1 3 (.box (.t 0))]) k236_6
theorem ok236 : fnOk Tryz.prog 236 c236 48 [] = true := by kernel_rfl

def k237_0 : ACode := .seq (.region [W1 5 (.fld 4 (.t 2)), W1 6 (.ld none (.t 5)), W1 7 (.mkf 273 [(.t 3)]), W1 8 (.call 246 [(.t 6), (.t 7)]), W1 4 (.mv (.t 8))]) (.ret)

def c237 : ACode := .seq (.region [W1 2 (.box (.t 0)), W1 3 (.box (.t 1)), W1 4 (.mv (.c (.int .i64 0)))]) k237_0
theorem ok237 : fnOk Tryz.prog 237 c237 9 [.t 4] = true := by kernel_rfl

def k238_0 : ACode := .cond (.t 5) (.seq (.region [W1 2 (.mv (.c (.int .i64 0)))]) (.ret)) (.skip)

def k238_1 : ACode := .seq (.seq (.region [W1 3 (.mv (.t 0)), W1 4 (.call 132 [(.t 3)]), W1 5 (.un .not (.t 4))]) k238_0) (.seq (.region [W1 6 (.mv (.t 0)), W1 2 (.mv (.t 6))]) (.ret))

def c238 : ACode := .seq (.region [W1 2 (.mv (.c (.int .i64 0)))]) k238_1
theorem ok238 : fnOk Tryz.prog 238 c238 7 [.t 2] = true := by kernel_rfl

def k239_0 : ACode := .cond (.t 18) (.seq (.region [W1 4 (.mv (.c (.int .i64 (-1))))]) (.ret)) (.skip)

def k239_1 : ACode := .seq (.region [W1 19 (.ld (some 5) (.t 2)), W1 20 (.mv (.t 1)), W1 21 (.call 237 [(.t 19), (.t 20)]), W1 4 (.mv (.t 21))]) (.ret)

def k239_2 : ACode := .seq (.seq (.region [W1 5 (.ld (some 5) (.t 2)), W1 6 (.call 26 [(.t 5)]), W1 7 (.un .not (.t 6)), W1 8 (.mv (.t 7)), ⟨(some 9), .mv (.t 1), (some (8, false))⟩, ⟨(some 10), .bin .lss (.t 9) (.c (.int .i64 0)), (some (8, false))⟩, W1 11 (.pick (.t 8) (.c (.bool true)) (.t 10)), W1 12 (.mv (.t 11)), ⟨(some 13), .mv (.t 1), (some (12, false))⟩, ⟨(some 14), .fld 3 (.t 2), (some (12, false))⟩, ⟨(some 15), .ld none (.t 14), (some (12, false))⟩, ⟨(some 16), .len false (.t 15), (some (12, false))⟩, ⟨(some 17), .bin .geq (.t 13) (.t 16), (some (12, false))⟩,
 W1 18 (.pick (.t 12) (.c (.bool true)) (.t 17))]) k239_0) k239_1

def c239 : ACode := .seq (.region [W1 2 (.box (.t 0)), W1 4 (.mv (.c (.int .i64 0)))]) k239_2
theorem ok239 : fnOk Tryz.prog 239 c239 22 [.t 4] = true := by kernel_rfl

def k245_0 : ACode := .cond (.t 8) (.seq (.region [W1 4 (.mv (.c (.lit (.slice none 0 0))))]) (.ret)) (.skip)

def k245_1 : ACode := .seq (.region [W1 9 (.ld (some 1) (.t 2)), W1 10 (.mv (.t 1)), W1 11 (.call 222 [(.t 9), (.t 10)]), W1 4 (.mv (.t 11))]) (.ret)

def k245_2 : ACode := .seq (.seq (.region [W1 5 (.ld (some 1) (.t 2)), W1 6 (.mv (.t 1)), W1 7 (.call 214 [(.t 5), (.t 6)]), W1 8 (.un .not (.t 7))]) k245_0) k245_1

def c245 : ACode := .seq (.region [W1 2 (.box (.t 0)), W1 4 (.mv (.c (.lit (.slice none 0 0))))]) k245_2
theorem ok245 : fnOk Tryz.prog 245 c245 12 [.t 4] = true := by kernel_rfl

def k247_0 : ACode := .seq (.region [W1 3 (.fld 0 (.t 1)), W1 4 (.ld none (.t 3)), W1 5 (.bin .eql (.t 4) (.c (.int .i64 0))), W1 2 (.mv (.t 5))]) (.ret)

def c247 : ACode := .seq (.region [W1 1 (.box (.t 0)), W1 2 (.mv (.c (.bool false)))]) k247_0
theorem ok247 : fnOk Tryz.prog 247 c247 6 [.t 2] = true := by kernel_rfl

def k248_0 : ACode := .seq (.region [W1 5 (.mv (.t 0)), W1 6 (.call 238 [(.t 5)]), W1 7 (.mv (.t 1)), W1 8 (.call 238 [(.t 7)]), W1 9 (.bin .and (.t 6) (.t 8)), W1 4 (.mv (.t 9))]) (.ret)

def c248 : ACode := .seq (.region [W1 4 (.mv (.c (.int .i64 0)))]) k248_0
theorem ok248 : fnOk Tryz.prog 248 c248 10 [.t 4] = true := by kernel_rfl

def k249_0 : ACode := .seq (.region [W1 7 (.ld (some 5) (.t 3)), W1 8 (.call 26 [(.t 7)]), W1 9 (.mv (.t 8)), ⟨(some 10), .mv (.t 2), (some (9, true))⟩, ⟨(some 11), .bin .geq (.t 10) (.c (.int .i64 0)), (some (9, true))⟩, W1 12 (.pick (.t 9) (.t 11) (.c (.bool false))), W1 13 (.mv (.t 12)), ⟨(some 14), .mv (.t 2), (some (13, true))⟩, ⟨(some 15), .fld 3 (.t 3), (some (13, true))⟩, ⟨(some 16), .ld none (.t 15), (some (13, true))⟩, ⟨(some 17), .len false (.t 16), (some (13, true))⟩, ⟨(some 18), .bin .lss (.t 14) (.t 17), (some (13, true))⟩, W1 19 (.pick (.t 13) (.t 18) (.c (.bool false))),
 W1 20 (.mv (.t 19)), ⟨(some 21), .ld (some 5) (.t 3), (some (20, true))⟩, ⟨(some 22), .mv (.t 1), (some (20, true))⟩, ⟨(some 23), .mv (.t 2), (some (20, true))⟩, ⟨(some 24), .call 174 [(.t 21), (.t 22), (.t 23)], (some (20, true))⟩, W1 25 (.pick (.t 20) (.t 24) (.c (.bool false))), W1 6 (.mv (.t 25))]) (.ret)

def c249 : ACode := .seq (.region [W1 3 (.box (.t 0)), W1 6 (.mv (.c (.bool false)))]) k249_0
theorem ok249 : fnOk Tryz.prog 249 c249 26 [.t 6] = true := by kernel_rfl

def k250_0 : ACode := .seq (.region [W1 30 (.build [.lit (.slice none 0 0)] []), ⟨none, .st 1 (.t 6) (.t 30), none⟩, W1 7 (.mv (.c (.bool false)))]) (.ret)

def k250_1 : ACode := .region [W1 41 (.fld 0 (.t 3)), W1 42 (.ld none (.t 41)), W1 43 (.mv (.t 9)), W1 44 (.mv (.t 2)), W1 45 (.ixs 1 (.t 42) (.t 43)), ⟨none, .st 1 (.t 45) (.t 44), none⟩]

def k250_2 : ACode := .seq (.block 1 ( .seq (.region [W1 39 (.ixs 1 (.t 35) (.t 37)), W1 40 (.ld none (.t 39)), W1 9 (.mv (.t 40))]) k250_1)) (.region [W1 46 (.bin .add (.t 37) (.c (.int .i64 1))), W1 37 (.mv (.t 46))])

def b250_3 : ACode := .seq (.region [W1 38 (.bin .lss (.t 37) (.t 36))]) (.seq (.cond (.t 38) (.skip) (.exit 0)) k250_2)

def k250_4 : ACode := .seq (.region [W1 60 (.ld (some 1) (.t 3)), ⟨none, .st 1 (.t 6) (.t 60), none⟩, W1 7 (.mv (.c (.bool true)))]) (.ret)

def k250_5 : ACode := .seq (.region [W1 56 (.fld 0 (.t 3)), W1 57 (.ld none (.t 56)), W1 58 (.mv (.t 1)), W1 59 (.ixs 1 (.t 57) (.t 58)), ⟨none, .st 1 (.t 59) (.c (.int .i64 (-2))), none⟩]) k250_4

def k250_6 : ACode := .seq (.drawn [(0, W1 47 (.fld 0 (.t 3))), (1, W1 48 (.ld none (.t 47))), (3, W1 50 (.fld 0 (.t 3))), (4, W1 51 (.ld none (.t 50))), (5, W1 52 (.mv (.t 1))), (6, W1 53 (.ixs 1 (.t 51) (.t 52))), (7, W1 54 (.ld none (.t 53))), (2, W1 49 (.mv (.t 2))), (8, W1 55 (.ixs 1 (.t 48) (.t 49))), (9, ⟨none, .st 1 (.t 55) (.t 54), none⟩)] [[], [0], [], [], [3], [], [4, 5], [6], [1, 2, 0, 1, 2, 3, 4, 5, 6, 7], [8, 7, 0, 1, 2, 3, 4, 5, 6, 7]] 0) k250_5

def k250_7 : ACode := .seq (.seq (.region [W1 33 (.ld (some 1) (.t 3)), W1 34 (.mv (.t 1)), W1 35 (.call 222 [(.t 33), (.t 34)]), W1 36 (.len false (.t 35)), W1 37 (.mv (.c (.int .i64 0)))]) (.block 0 ( .loop b250_3))) k250_6

def k250_8 : ACode := .seq (.region [W1 31 (.ld (some 1) (.t 3)), W1 32 (.call 276 [(.t 31)]), ⟨none, .st 1 (.t 3) (.t 32), none⟩]) k250_7

def k250_9 : ACode := .seq (.seq (.region [W1 10 (.ld (some 1) (.t 3)), W1 11 (.mv (.t 1)), W1 12 (.call 214 [(.t 10), (.t 11)]), W1 13 (.un .not (.t 12)), W1 14 (.mv (.t 13)), ⟨(some 15), .mv (.t 2), (some (14, false))⟩, ⟨(some 16), .bin .lss (.t 15) (.c (.int .i64 0)), (some (14, false))⟩, W1 17 (.pick (.t 14) (.c (.bool true)) (.t 16)), W1 18 (.mv (.t 17)), ⟨(some 19), .mv (.t 2), (some (18, false))⟩, ⟨(some 20), .fld 0 (.t 3), (some (18, false))⟩, ⟨(some 21), .ld none (.t 20), (some (18, false))⟩, ⟨(some 22), .len false (.t 21), (some (18, false))⟩,
 ⟨(some 23), .bin .geq (.t 19) (.t 22), (some (18, false))⟩, W1 24 (.pick (.t 18) (.c (.bool true)) (.t 23)), W1 25 (.mv (.t 24)), ⟨(some 26), .ld (some 1) (.t 3), (some (25, false))⟩, ⟨(some 27), .mv (.t 2), (some (25, false))⟩, ⟨(some 28), .call 175 [(.t 26), (.t 27)], (some (25, false))⟩, W1 29 (.pick (.t 25) (.c (.bool true)) (.t 28))]) (.cond (.t 29) k250_0 (.skip))) k250_8

def c250 : ACode := .seq (.region [W1 3 (.box (.t 0)), W1 6 (.new [.lit (.slice none 0 0)]), W1 7 (.mv (.c (.bool false)))]) k250_9
theorem ok250 : fnOk Tryz.prog 250 c250 61 [.c 6 (some 1), .t 7] = true := by kernel_rfl

def k272_0 : ACode := .seq (.drawn [(0, W1 5 (.fld 0 (.t 2))), (1, W1 6 (.ld none (.t 5))), (2, W1 7 (.bin .eql (.t 6) (.c (.int .i64 2)))), (3, W1 8 (.mv (.t 7))), (5, ⟨(some 10), .fld 2 (.t 2), (some (8, true))⟩), (6, ⟨(some 11), .ld none (.t 10), (some (8, true))⟩), (4, ⟨(some 9), .mv (.t 1), (some (8, true))⟩), (7, ⟨(some 12), .bin .geq (.t 9) (.t 11), (some (8, true))⟩), (8, W1 13 (.pick (.t 8) (.t 12) (.c (.bool false)))), (9, W1 14 (.mv (.t 13))), (11, ⟨(some 16), .fld 2 (.t 2), (some (14, true))⟩), (12, ⟨(some 17), .ld none (.t 16), (some (14, true))⟩),
 (13, ⟨(some 18), .fld 1 (.t 2), (some (14, true))⟩), (14, ⟨(some 19), .ld none (.t 18), (some (14, true))⟩), (10, ⟨(some 15), .mv (.t 1), (some (14, true))⟩), (15, ⟨(some 20), .bin .shl (.c (.int .i64 1)) (.t 19), (some (14, true))⟩), (16, ⟨(some 21), .bin .add (.t 17) (.t 20), (some (14, true))⟩), (17, ⟨(some 22), .bin .lss (.t 15) (.t 21), (some (14, true))⟩), (18, W1 23 (.pick (.t 14) (.t 22) (.c (.bool false)))), (19, W1 4 (.mv (.t 23)))]
 [[], [0], [1], [2], [3], [3], [5, 3], [4, 6, 3], [3, 7], [8, 3], [9], [9], [11, 9], [9], [13, 9], [14, 9], [12, 15, 9], [10, 16, 9], [9, 17], [18, 9, 0, 1, 2, 3, 4, 5, 6, 7, 8, 9, 10, 11, 12, 13, 14, 15, 16, 17, 18]] 0) (.ret)

def c272 : ACode := .seq (.region [W1 2 (.box (.t 0)), W1 4 (.mv (.c (.bool false)))]) k272_0
theorem ok272 : fnOk Tryz.prog 272 c272 24 [.t 4] = true := by kernel_rfl

def k273_0 : ACode := .seq (.region [W1 4 (.ld (some 13) (.t 2)), W1 5 (.ld none (.t 1)), W1 6 (.call 272 [(.t 4), (.t 5)]), W1 3 (.mv (.t 6))]) (.ret)

def c273 : ACode := .seq (.region [W1 2 (.box (.t 0)), W1 3 (.mv (.c (.bool false)))]) k273_0
theorem ok273 : fnOk Tryz.prog 273 c273 7 [.t 3] = true := by kernel_rfl

def k276_0 : ACode := .seq (.region [W1 3 (.fld 0 (.t 1)), W1 4 (.ld none (.t 3)), W1 5 (.call 231 [(.t 4)]), W1 6 (.build [.lit (.slice none 0 0)] [(0, 1, (.t 5))]), ⟨none, .st 1 (.t 2) (.t 6), none⟩]) (.ret)

def c276 : ACode := .seq (.region [W1 1 (.box (.t 0)), W1 2 (.new [.lit (.slice none 0 0)])]) k276_0
theorem ok276 : fnOk Tryz.prog 276 c276 7 [.c 2 (some 1)] = true := by kernel_rfl

end Go.Proofs.YtipigjckoejfpaaGreat.Ax
