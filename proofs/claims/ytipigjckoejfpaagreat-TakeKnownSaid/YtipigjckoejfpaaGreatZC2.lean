/- Texts put behind one another: AxCOps, AxCLaw17. Conditions: none. -/
import Derived.Test.YtipigjckoejfpaaGreatAxEnterZ
import Derived.Test.YtipigjckoejfpaaGreatProg
import Derived.KernelRfl
set_option linter.unusedSimpArgs false
set_option linter.unusedVariables false
/- The code of functions of the program, for our abstract machine; each is tied to the program by a closed test. Written by gen.py. Conditions: none. -/
namespace Go.Proofs.YtipigjckoejfpaaGreat.Ax
open Go Go.Ax

def k37_0 : ACode := .seq (.region [W1 21 (.ld (some 5) (.t 3)), W1 22 (.mv (.t 10)), W1 23 (.build [.int .i64 0, .int .u64 0, .int .i64 0] [(0, 1, (.t 22))]), ⟨none, .st 5 (.t 6) (.t 21), none⟩, ⟨none, .st 3 (.t 7) (.t 23), none⟩]) (.ret)

def k37_1 : ACode := .seq (.region [W1 24 (.ld (some 5) (.t 8)), W1 25 (.mv (.t 9)), W1 26 (.build [.int .i64 0, .int .u64 0, .int .i64 0] [(2, 1, (.t 25))]), ⟨none, .st 5 (.t 6) (.t 24), none⟩, ⟨none, .st 3 (.t 7) (.t 26), none⟩]) (.ret)

def k37_2 : ACode := .seq (.seq (.region [W1 19 (.mv (.t 10)), W1 20 (.bin .neq (.t 19) (.c (.int .i64 0)))]) (.cond (.t 20) k37_0 (.skip))) k37_1

def k37_3 : ACode := .seq (.region [W1 12 (.ld (some 5) (.t 3)), W1 13 (.mv (.t 1)), W1 14 (.ld (some 6) (.t 5)), W1 15 (.call 124 [(.t 12), (.t 13), (.t 14)]), W1 11 (.mv (.t 15)), W1 16 (.ext (.t 11) 0), W1 17 (.ext (.t 11) 1), W1 18 (.ext (.t 11) 2), W1 8 (.new [.int .i64 0, .int .i64 0, .int .i64 0, .lit (.slice none 0 0), .lit (.slice none 0 0)]), ⟨none, .st 5 (.t 8) (.t 16), none⟩, W1 9 (.mv (.t 17)), W1 10 (.mv (.t 18))]) k37_2

def c37 : ACode := .seq (.region [W1 3 (.box (.t 0)), W1 5 (.box (.t 2)), W1 6 (.new [.int .i64 0, .int .i64 0, .int .i64 0, .lit (.slice none 0 0), .lit (.slice none 0 0)]), W1 7 (.new [.int .i64 0, .int .u64 0, .int .i64 0])]) k37_3
theorem ok37 : fnOk Tryz.prog 37 c37 27 [.c 6 (some 5), .c 7 (some 3)] = true := by kernel_rfl

def k43_0 : ACode := .seq (.region [W1 19 (.ld (some 5) (.t 3)), W1 20 (.mv (.t 9)), W1 21 (.build [.int .i64 0, .int .u64 0, .int .i64 0] [(0, 1, (.t 20))]), ⟨none, .st 5 (.t 6) (.t 19), none⟩, ⟨none, .st 3 (.t 7) (.t 21), none⟩]) (.ret)

def k43_1 : ACode := .seq (.region [W1 22 (.ld (some 5) (.t 8)), W1 23 (.build [.int .i64 0, .int .u64 0, .int .i64 0] []), ⟨none, .st 5 (.t 6) (.t 22), none⟩, ⟨none, .st 3 (.t 7) (.t 23), none⟩]) (.ret)

def k43_2 : ACode := .seq (.seq (.region [W1 17 (.mv (.t 9)), W1 18 (.bin .neq (.t 17) (.c (.int .i64 0)))]) (.cond (.t 18) k43_0 (.skip))) k43_1

def k43_3 : ACode := .seq (.region [W1 11 (.ld (some 5) (.t 3)), W1 12 (.mv (.t 1)), W1 13 (.ld (some 6) (.t 5)), W1 14 (.call 128 [(.t 11), (.t 12), (.t 13)]), W1 10 (.mv (.t 14)), W1 15 (.ext (.t 10) 0), W1 16 (.ext (.t 10) 1), W1 8 (.new [.int .i64 0, .int .i64 0, .int .i64 0, .lit (.slice none 0 0), .lit (.slice none 0 0)]), ⟨none, .st 5 (.t 8) (.t 15), none⟩, W1 9 (.mv (.t 16))]) k43_2

def c43 : ACode := .seq (.region [W1 3 (.box (.t 0)), W1 5 (.box (.t 2)), W1 6 (.new [.int .i64 0, .int .i64 0, .int .i64 0, .lit (.slice none 0 0), .lit (.slice none 0 0)]), W1 7 (.new [.int .i64 0, .int .u64 0, .int .i64 0])]) k43_3
theorem ok43 : fnOk Tryz.prog 43 c43 24 [.c 6 (some 5), .c 7 (some 3)] = true := by kernel_rfl

def k69_0 : ACode := .seq (.region [W1 18 (.ld (some 5) (.t 2)), ⟨none, .st 5 (.t 4) (.t 18), none⟩, W1 5 (.mv (.c (.int .i64 0)))]) (.ret)

def k69_1 : ACode := .cond (.t 27) (.region [W1 28 (.mv (.t 6)), W1 29 (.bin .add (.t 28) (.c (.int .i64 1))), W1 6 (.mv (.t 29))]) (.skip)

def k69_2 : ACode := .seq (.region [W1 25 (.ld (some 5) (.t 2)), W1 26 (.mv (.t 8)), W1 27 (.call 145 [(.t 25), (.t 26)])]) k69_1

def k69_3 : ACode := .seq (.block 1 ( .seq (.region [W1 23 (.ixs 1 (.t 19) (.t 21)), W1 24 (.ld none (.t 23)), W1 8 (.mv (.t 24))]) k69_2)) (.region [W1 30 (.bin .add (.t 21) (.c (.int .i64 1))), W1 21 (.mv (.t 30))])

def b69_4 : ACode := .seq (.region [W1 22 (.bin .lss (.t 21) (.t 20))]) (.seq (.cond (.t 22) (.skip) (.exit 0)) k69_3)

def k69_5 : ACode := .region [W1 47 (.mv (.t 12)), W1 48 (.mv (.t 47)), ⟨(some 49), .mv (.t 9), (some (48, false))⟩, W1 50 (.pick (.t 48) (.c (.bool true)) (.t 49)), W1 9 (.mv (.t 50))]

def k69_6 : ACode := .seq (.region [W1 44 (.mv (.t 6)), W1 45 (.mv (.t 11)), W1 46 (.bin .add (.t 44) (.t 45)), W1 6 (.mv (.t 46))]) k69_5

def k69_7 : ACode := .seq (.region [W1 39 (.ld (some 5) (.t 2)), W1 40 (.mv (.t 10)), W1 41 (.call 146 [(.t 39), (.t 40)]), W1 38 (.mv (.t 41)), W1 42 (.ext (.t 38) 0), W1 43 (.ext (.t 38) 1), W1 11 (.mv (.t 42)), W1 12 (.mv (.t 43))]) k69_6

def k69_8 : ACode := .seq (.block 5 ( .seq (.region [W1 37 (.mv (.t 35)), W1 10 (.mv (.t 37))]) k69_7)) (.region [W1 51 (.bin .add (.t 35) (.c (.int .i64 1))), W1 35 (.mv (.t 51))])

def b69_9 : ACode := .seq (.region [W1 36 (.bin .lss (.t 35) (.t 34))]) (.seq (.cond (.t 36) (.skip) (.exit 4)) k69_8)

def k69_10 : ACode := .seq (.region [W1 32 (.fld 4 (.t 2)), W1 33 (.ld none (.t 32)), W1 34 (.len false (.t 33)), W1 35 (.mv (.c (.int .i64 0)))]) (.block 4 ( .loop b69_9))

def b69_11 : ACode := .seq (.seq (.region [W1 31 (.mv (.t 9))]) (.cond (.t 31) (.skip) (.exit 2))) (.block 3 ( .seq (.region [W1 9 (.mv (.c (.bool false)))]) k69_10))

def k69_12 : ACode := .seq (.region [W1 52 (.ld (some 5) (.t 2)), W1 53 (.mv (.t 6)), ⟨none, .st 5 (.t 4) (.t 52), none⟩, W1 5 (.mv (.t 53))]) (.ret)

def k69_13 : ACode := .seq (.seq (.region [W1 9 (.mv (.c (.bool true)))]) (.block 2 ( .loop b69_11))) k69_12

def k69_14 : ACode := .seq (.seq (.region [W1 19 (.mv (.t 1)), W1 20 (.len false (.t 19)), W1 21 (.mv (.c (.int .i64 0)))]) (.block 0 ( .loop b69_4))) k69_13

def k69_15 : ACode := .seq (.seq (.region [W1 15 (.ld (some 5) (.t 2)), W1 16 (.call 26 [(.t 15)]), W1 17 (.un .not (.t 16))]) (.cond (.t 17) k69_0 (.skip))) (.seq (.region [W1 6 (.mv (.c (.int .i64 0)))]) k69_14)

def k69_16 : ACode := .seq (.region [W1 13 (.ld (some 5) (.t 2)), W1 14 (.call 27 [(.t 13)]), ⟨none, .st 5 (.t 2) (.t 14), none⟩]) k69_15

def c69 : ACode := .seq (.region [W1 2 (.box (.t 0)), W1 4 (.new [.int .i64 0, .int .i64 0, .int .i64 0, .lit (.slice none 0 0), .lit (.slice none 0 0)]), W1 5 (.mv (.c (.int .i64 0)))]) k69_16
theorem ok69 : fnOk Tryz.prog 69 c69 54 [.c 4 (some 5), .t 5] = true := by kernel_rfl

def k72_0 : ACode := .seq (.region [W1 26 (.ld (some 5) (.t 3)), W1 27 (.build [.int .i64 0, .int .u64 0, .int .i64 0] [(0, 1, (.c (.int .i64 1)))]), ⟨none, .st 5 (.t 6) (.t 26), none⟩, ⟨none, .st 3 (.t 7) (.t 27), none⟩]) (.ret)

def k72_1 : ACode := .seq (.region [W1 39 (.ld (some 5) (.t 3)), W1 40 (.mv (.t 10)), W1 41 (.build [.int .i64 0, .int .u64 0, .int .i64 0] [(0, 1, (.t 40))]), ⟨none, .st 5 (.t 6) (.t 39), none⟩, ⟨none, .st 3 (.t 7) (.t 41), none⟩]) (.ret)

def k72_2 : ACode := .region [W1 47 (.ld (some 5) (.t 3)), W1 48 (.call 100 [(.t 47)]), W1 49 (.mv (.t 8)), W1 50 (.call 147 [(.t 48), (.t 49)]), W1 11 (.mv (.t 50))]

def k72_3 : ACode := .seq (.region [W1 57 (.ld (some 5) (.t 3)), W1 58 (.mv (.t 12)), W1 59 (.build [.int .i64 0, .int .u64 0, .int .i64 0] [(2, 1, (.t 58))]), ⟨none, .st 5 (.t 6) (.t 57), none⟩, ⟨none, .st 3 (.t 7) (.t 59), none⟩]) (.ret)

def k72_4 : ACode := .seq (.region [W1 52 (.ld (some 5) (.t 3)), W1 53 (.mv (.t 11)), W1 54 (.call 69 [(.t 52), (.t 53)]), W1 51 (.mv (.t 54)), W1 55 (.ext (.t 51) 0), W1 56 (.ext (.t 51) 1), ⟨none, .st 5 (.t 3) (.t 55), none⟩, W1 12 (.mv (.t 56))]) k72_3

def k72_5 : ACode := .seq (.seq (.region [W1 44 (.fld 0 (.t 5)), W1 45 (.ld none (.t 44)), W1 46 (.bin .eql (.t 45) (.c (.int .i64 6)))]) (.cond (.t 46) k72_2 (.skip))) k72_4

def k72_6 : ACode := .seq (.region [W1 42 (.mv (.t 8)), W1 43 (.bsl 1 1 [.int .i64 0] [(0, (.t 42))]), W1 11 (.mv (.t 43))]) k72_5

def k72_7 : ACode := .seq (.seq (.region [W1 37 (.mv (.t 10)), W1 38 (.bin .neq (.t 37) (.c (.int .i64 0)))]) (.cond (.t 38) k72_1 (.skip))) k72_6

def k72_8 : ACode := .seq (.region [W1 29 (.ld (some 5) (.t 3)), W1 30 (.mv (.t 1)), W1 31 (.fld 1 (.t 5)), W1 32 (.ld (some 1) (.t 31)), W1 33 (.call 65 [(.t 29), (.t 30), (.t 32)]), W1 28 (.mv (.t 33)), W1 34 (.ext (.t 28) 0), W1 35 (.ext (.t 28) 1), W1 36 (.ext (.t 28) 2), W1 9 (.new [.int .i64 0, .int .i64 0, .int .i64 0, .int .i64 0]), W1 8 (.mv (.t 34)), ⟨none, .st 4 (.t 9) (.t 35), none⟩, W1 10 (.mv (.t 36))]) k72_7

def k72_9 : ACode := .seq (.seq (.region [W1 13 (.ld (some 6) (.t 5)), W1 14 (.call 79 [(.t 13)]), W1 15 (.un .not (.t 14)), W1 16 (.mv (.t 15)), ⟨(some 17), .fld 0 (.t 5), (some (16, false))⟩, ⟨(some 18), .ld none (.t 17), (some (16, false))⟩, ⟨(some 19), .bin .neq (.t 18) (.c (.int .i64 5)), (some (16, false))⟩, ⟨(some 20), .mv (.t 19), (some (16, false))⟩, ⟨(some 21), .fld 0 (.t 5), (some (20, true))⟩, ⟨(some 22), .ld none (.t 21), (some (20, true))⟩, ⟨(some 23), .bin .neq (.t 22) (.c (.int .i64 6)), (some (20, true))⟩,
 ⟨(some 24), .pick (.t 20) (.t 23) (.c (.bool false)), (some (16, false))⟩, W1 25 (.pick (.t 16) (.c (.bool true)) (.t 24))]) (.cond (.t 25) k72_0 (.skip))) k72_8

def c72 : ACode := .seq (.region [W1 3 (.box (.t 0)), W1 5 (.box (.t 2)), W1 6 (.new [.int .i64 0, .int .i64 0, .int .i64 0, .lit (.slice none 0 0), .lit (.slice none 0 0)]), W1 7 (.new [.int .i64 0, .int .u64 0, .int .i64 0])]) k72_9
theorem ok72 : fnOk Tryz.prog 72 c72 60 [.c 6 (some 5), .c 7 (some 3)] = true := by kernel_rfl

def k124_0 : ACode := .seq (.region [W1 26 (.ld (some 5) (.t 3)), ⟨none, .st 5 (.t 6) (.t 26), none⟩, W1 7 (.mv (.c (.int .i64 0))), W1 8 (.mv (.c (.int .i64 1)))]) (.ret)

def k124_1 : ACode := .seq (.region [W1 39 (.ld (some 5) (.t 3)), W1 40 (.mv (.t 11)), ⟨none, .st 5 (.t 6) (.t 39), none⟩, W1 7 (.mv (.c (.int .i64 0))), W1 8 (.mv (.t 40))]) (.ret)

def k124_2 : ACode := .seq (.region [W1 45 (.ld (some 5) (.t 3)), ⟨none, .st 5 (.t 6) (.t 45), none⟩, W1 7 (.mv (.c (.int .i64 0))), W1 8 (.mv (.c (.int .i64 7)))]) (.ret)

def k124_3 : ACode := .seq (.region [W1 51 (.ld (some 5) (.t 3)), ⟨none, .st 5 (.t 6) (.t 51), none⟩, W1 7 (.mv (.c (.int .i64 0))), W1 8 (.mv (.c (.int .i64 6)))]) (.ret)

def k124_4 : ACode := .seq (.region [W1 47 (.fld 2 (.t 10)), W1 48 (.ld none (.t 47)), W1 49 (.call 104 [(.c (.int .i64 2)), (.t 48)]), W1 50 (.un .not (.t 49)), W1 46 (.mv (.t 50))]) (.cond (.t 46) k124_3 (.skip))

def k124_5 : ACode := .seq (.region [W1 42 (.fld 0 (.t 10)), W1 43 (.ld none (.t 42)), W1 44 (.bin .neq (.t 43) (.c (.int .i64 1))), W1 41 (.mv (.t 44))]) (.cond (.t 41) k124_2 k124_4)

def k124_6 : ACode := .seq (.region [W1 62 (.ld (some 5) (.t 3)), W1 63 (.mv (.t 11)), ⟨none, .st 5 (.t 6) (.t 62), none⟩, W1 7 (.mv (.c (.int .i64 0))), W1 8 (.mv (.t 63))]) (.ret)

def k124_7 : ACode := .seq (.region [W1 74 (.ld (some 5) (.t 3)), ⟨none, .st 5 (.t 6) (.t 74), none⟩, W1 7 (.mv (.c (.int .i64 0))), W1 8 (.mv (.c (.int .i64 1)))]) (.ret)

def k124_8 : ACode := .region [W1 86 (.ld (some 5) (.t 3)), W1 87 (.fld 4 (.t 5)), W1 88 (.ld none (.t 87)), W1 89 (.call 209 [(.t 86), (.t 88)]), W1 85 (.mv (.t 89)), W1 90 (.ext (.t 85) 0), W1 91 (.ext (.t 85) 1), W1 17 (.mv (.t 90)), W1 14 (.mv (.t 91))]

def k124_9 : ACode := .seq (.region [W1 109 (.ld (some 5) (.t 3)), ⟨none, .st 5 (.t 6) (.t 109), none⟩, W1 7 (.mv (.c (.int .i64 0))), W1 8 (.mv (.c (.int .i64 8)))]) (.ret)

def k124_10 : ACode := .seq (.region [W1 142 (.ld (some 5) (.t 3)), W1 143 (.mv (.t 16)), ⟨none, .st 5 (.t 6) (.t 142), none⟩, W1 7 (.mv (.t 143)), W1 8 (.mv (.c (.int .i64 0)))]) (.ret)

def k124_11 : ACode := .seq (.region [W1 132 (.fld 3 (.t 3)), W1 133 (.ld none (.t 132)), W1 134 (.mv (.t 12)), W1 135 (.fld 3 (.t 5)), W1 136 (.ld none (.t 135)), W1 137 (.mv (.t 16)), W1 138 (.build [.int .i64 0, .int .i64 0, .int .i64 0, .int .i64 0] [(0, 1, (.t 136)), (1, 1, (.t 137)), (2, 1, (.c (.int .i64 7)))]), W1 139 (.mv (.t 9)), W1 140 (.build [.int .i64 0, .int .i64 0, .int .i64 0, .int .i64 0, .int .i64 0] [(0, 4, (.t 138)), (4, 1, (.t 139))]), W1 141 (.ixs 5 (.t 133) (.t 134)), ⟨none, .st 5 (.t 141) (.t 140), none⟩]) k124_10

def k124_12 : ACode := .seq (.region [W1 125 (.fld 4 (.t 3)), W1 126 (.ld none (.t 125)), W1 127 (.fld 1 (.t 10)), W1 128 (.ld none (.t 127)), W1 129 (.mv (.t 15)), W1 130 (.ixs 13 (.t 126) (.t 128)), W1 131 (.fld 4 (.t 130)), ⟨none, .st 1 (.t 131) (.t 129), none⟩]) k124_11

def k124_13 : ACode := .seq (.drawn [(0, W1 113 (.fld 4 (.t 3))), (1, W1 114 (.ld none (.t 113))), (3, W1 116 (.fld 3 (.t 5))), (4, W1 117 (.ld none (.t 116))), (5, W1 118 (.fld 4 (.t 5))), (6, W1 119 (.ld none (.t 118))), (7, W1 120 (.mv (.t 17))), (8, W1 121 (.call 159 [(.t 117), (.t 119), (.t 120)])), (2, W1 115 (.mv (.t 16))), (9, W1 112 (.mv (.t 121))), (10, W1 122 (.ext (.t 112) 0)), (12, W1 124 (.ixs 13 (.t 114) (.t 115))), (13, ⟨none, .st 13 (.t 124) (.t 122), none⟩), (11, W1 123 (.ext (.t 112) 1))]
 [[], [0], [], [], [3], [], [5], [], [4, 6, 7], [8], [9], [9], [1, 2, 0, 1, 2, 3, 4, 5, 6, 7, 8, 9, 10], [12, 10, 8, 0, 1, 2, 3, 4, 5, 6, 7, 8, 9, 10]] 0) k124_12

def k124_14 : ACode := .seq (.region [W1 110 (.ld (some 5) (.t 3)), W1 111 (.call 27 [(.t 110)]), ⟨none, .st 5 (.t 3) (.t 111), none⟩]) k124_13

def k124_15 : ACode := .seq (.seq (.region [W1 92 (.mv (.t 15)), W1 93 (.fld 4 (.t 3)), W1 94 (.ld none (.t 93)), W1 95 (.fld 1 (.t 10)), W1 96 (.ld none (.t 95)), W1 97 (.ixs 13 (.t 94) (.t 96)), W1 98 (.fld 3 (.t 97)), W1 99 (.ld none (.t 98)), W1 100 (.bin .gtr (.t 92) (.t 99)), W1 101 (.mv (.t 100)), ⟨(some 102), .mv (.t 14), (some (101, false))⟩, ⟨(some 103), .un .not (.t 102), (some (101, false))⟩, W1 104 (.pick (.t 101) (.c (.bool true)) (.t 103)), W1 105 (.mv (.t 104)), ⟨(some 106), .mv (.t 16), (some (105, false))⟩,
 ⟨(some 107), .bin .lss (.t 106) (.c (.int .i64 0)), (some (105, false))⟩, W1 108 (.pick (.t 105) (.c (.bool true)) (.t 107))]) (.cond (.t 108) k124_9 (.skip))) k124_14

def k124_16 : ACode := .seq (.seq (.region [W1 82 (.fld 3 (.t 5)), W1 83 (.ld none (.t 82)), W1 84 (.bin .eql (.t 83) (.c (.int .i64 2)))]) (.cond (.t 84) k124_8 (.skip))) k124_15

def k124_17 : ACode := .seq (.region [W1 80 (.ld (some 5) (.t 3)), W1 81 (.call 208 [(.t 80)]), W1 16 (.mv (.t 81))]) (.seq (.region [W1 17 (.mv (.c (.int .i64 0)))]) k124_16)

def k124_18 : ACode := .seq (.region [W1 75 (.ld (some 5) (.t 3)), W1 76 (.mv (.t 9)), W1 77 (.call 207 [(.t 75), (.t 76)]), W1 78 (.mv (.t 13)), W1 79 (.bin .add (.t 77) (.t 78)), W1 15 (.mv (.t 79))]) k124_17

def k124_19 : ACode := .seq (.seq (.region [W1 72 (.mv (.t 14)), W1 73 (.un .not (.t 72))]) (.cond (.t 73) k124_7 (.skip))) k124_18

def k124_20 : ACode := .seq (.region [W1 65 (.fld 3 (.t 5)), W1 66 (.ld none (.t 65)), W1 67 (.fld 4 (.t 5)), W1 68 (.ld none (.t 67)), W1 69 (.call 206 [(.t 66), (.t 68)]), W1 64 (.mv (.t 69)), W1 70 (.ext (.t 64) 0), W1 71 (.ext (.t 64) 1), W1 13 (.mv (.t 70)), W1 14 (.mv (.t 71))]) k124_19

def k124_21 : ACode := .seq (.seq (.region [W1 60 (.mv (.t 11)), W1 61 (.bin .neq (.t 60) (.c (.int .i64 0)))]) (.cond (.t 61) k124_6 (.skip))) k124_20

def k124_22 : ACode := .seq (.region [W1 53 (.ld (some 5) (.t 3)), W1 54 (.mv (.t 1)), W1 55 (.fld 2 (.t 5)), W1 56 (.ld (some 1) (.t 55)), W1 57 (.call 177 [(.t 53), (.t 54), (.t 56)]), W1 52 (.mv (.t 57)), W1 58 (.ext (.t 52) 0), W1 59 (.ext (.t 52) 1), W1 12 (.mv (.t 58)), W1 11 (.mv (.t 59))]) k124_21

def k124_23 : ACode := .seq (.block 0 ( .seq (.region [W1 37 (.mv (.t 11)), W1 38 (.bin .neq (.t 37) (.c (.int .i64 0))), W1 36 (.mv (.t 38))]) (.cond (.t 36) k124_1 k124_5))) k124_22

def k124_24 : ACode := .seq (.region [W1 28 (.ld (some 5) (.t 3)), W1 29 (.mv (.t 1)), W1 30 (.fld 1 (.t 5)), W1 31 (.ld (some 1) (.t 30)), W1 32 (.call 65 [(.t 28), (.t 29), (.t 31)]), W1 27 (.mv (.t 32)), W1 33 (.ext (.t 27) 0), W1 34 (.ext (.t 27) 1), W1 35 (.ext (.t 27) 2), W1 10 (.new [.int .i64 0, .int .i64 0, .int .i64 0, .int .i64 0]), W1 9 (.mv (.t 33)), ⟨none, .st 4 (.t 10) (.t 34), none⟩, W1 11 (.mv (.t 35))]) k124_23

def k124_25 : ACode := .seq (.seq (.region [W1 18 (.ld (some 6) (.t 5)), W1 19 (.call 79 [(.t 18)]), W1 20 (.un .not (.t 19)), W1 21 (.mv (.t 20)), ⟨(some 22), .fld 0 (.t 5), (some (21, false))⟩, ⟨(some 23), .ld none (.t 22), (some (21, false))⟩, ⟨(some 24), .bin .neq (.t 23) (.c (.int .i64 1)), (some (21, false))⟩, W1 25 (.pick (.t 21) (.c (.bool true)) (.t 24))]) (.cond (.t 25) k124_0 (.skip))) k124_24

def c124 : ACode := .seq (.region [W1 3 (.box (.t 0)), W1 5 (.box (.t 2)), W1 6 (.new [.int .i64 0, .int .i64 0, .int .i64 0, .lit (.slice none 0 0), .lit (.slice none 0 0)]), W1 7 (.mv (.c (.int .i64 0))), W1 8 (.mv (.c (.int .i64 0)))]) k124_25
theorem ok124 : fnOk Tryz.prog 124 c124 144 [.c 6 (some 5), .t 7, .t 8] = true := by kernel_rfl

def k128_0 : ACode := .seq (.region [W1 30 (.ld (some 5) (.t 3)), ⟨none, .st 5 (.t 6) (.t 30), none⟩, W1 7 (.mv (.c (.int .i64 1)))]) (.ret)

def k128_1 : ACode := .seq (.region [W1 42 (.ld (some 5) (.t 3)), W1 43 (.mv (.t 10)), ⟨none, .st 5 (.t 6) (.t 42), none⟩, W1 7 (.mv (.t 43))]) (.ret)

def k128_2 : ACode := .region [W1 47 (.ld (some 4) (.t 9)), W1 48 (.fld 3 (.t 5)), W1 49 (.ld none (.t 48)), W1 50 (.call 210 [(.t 47), (.t 49)]), ⟨none, .st 4 (.t 9) (.t 50), none⟩]

def k128_3 : ACode := .seq (.region [W1 63 (.ld (some 5) (.t 3)), W1 64 (.mv (.t 10)), ⟨none, .st 5 (.t 6) (.t 63), none⟩, W1 7 (.mv (.t 64))]) (.ret)

def k128_4 : ACode := .seq (.region [W1 61 (.mv (.t 10)), W1 62 (.bin .neq (.t 61) (.c (.int .i64 0)))]) (.cond (.t 62) k128_3 (.skip))

def k128_5 : ACode := .seq (.region [W1 55 (.ld (some 4) (.t 9)), W1 56 (.fld 4 (.t 5)), W1 57 (.ld none (.t 56)), W1 58 (.call 211 [(.t 55), (.t 57)]), W1 54 (.mv (.t 58)), W1 59 (.ext (.t 54) 0), W1 60 (.ext (.t 54) 1), ⟨none, .st 4 (.t 9) (.t 59), none⟩, W1 10 (.mv (.t 60))]) k128_4

def k128_6 : ACode := .seq (.region [W1 75 (.ld (some 5) (.t 3)), W1 76 (.mv (.t 10)), ⟨none, .st 5 (.t 6) (.t 75), none⟩, W1 7 (.mv (.t 76))]) (.ret)

def k128_7 : ACode := .seq (.region [W1 80 (.ld (some 5) (.t 3)), W1 81 (.mv (.t 8)), W1 82 (.mv (.t 11)), W1 83 (.ld (some 4) (.t 9)), W1 84 (.call 178 [(.t 80), (.t 81), (.t 82), (.t 83)]), W1 85 (.ext (.t 84) 0), W1 86 (.ext (.t 84) 1), ⟨none, .st 5 (.t 6) (.t 85), none⟩, W1 7 (.mv (.t 86))]) (.ret)

def k128_8 : ACode := .seq (.region [W1 91 (.ld (some 5) (.t 3)), ⟨none, .st 5 (.t 6) (.t 91), none⟩, W1 7 (.mv (.c (.int .i64 1)))]) (.ret)

def k128_9 : ACode := .seq (.region [W1 92 (.ld (some 5) (.t 3)), W1 93 (.mv (.t 8)), W1 94 (.mv (.t 11)), W1 95 (.call 213 [(.t 92), (.t 93), (.t 94)]), ⟨none, .st 5 (.t 6) (.t 95), none⟩, W1 7 (.mv (.c (.int .i64 0)))]) (.ret)

def k128_10 : ACode := .seq (.seq (.region [W1 87 (.ld (some 5) (.t 3)), W1 88 (.ld (some 4) (.t 9)), W1 89 (.mv (.t 11)), W1 90 (.call 212 [(.t 87), (.t 88), (.t 89)])]) (.cond (.t 90) k128_8 (.skip))) k128_9

def k128_11 : ACode := .seq (.seq (.region [W1 77 (.fld 0 (.t 5)), W1 78 (.ld none (.t 77)), W1 79 (.bin .neq (.t 78) (.c (.int .i64 4)))]) (.cond (.t 79) k128_7 (.skip))) k128_10

def k128_12 : ACode := .seq (.seq (.region [W1 73 (.mv (.t 10)), W1 74 (.bin .neq (.t 73) (.c (.int .i64 0)))]) (.cond (.t 74) k128_6 (.skip))) k128_11

def k128_13 : ACode := .seq (.region [W1 66 (.ld (some 5) (.t 3)), W1 67 (.mv (.t 1)), W1 68 (.fld 2 (.t 5)), W1 69 (.ld (some 1) (.t 68)), W1 70 (.call 177 [(.t 66), (.t 67), (.t 69)]), W1 65 (.mv (.t 70)), W1 71 (.ext (.t 65) 0), W1 72 (.ext (.t 65) 1), W1 11 (.mv (.t 71)), W1 10 (.mv (.t 72))]) k128_12

def k128_14 : ACode := .seq (.seq (.region [W1 51 (.fld 0 (.t 5)), W1 52 (.ld none (.t 51)), W1 53 (.bin .eql (.t 52) (.c (.int .i64 3)))]) (.cond (.t 53) k128_5 (.skip))) k128_13

def k128_15 : ACode := .seq (.seq (.region [W1 44 (.fld 0 (.t 5)), W1 45 (.ld none (.t 44)), W1 46 (.bin .neq (.t 45) (.c (.int .i64 4)))]) (.cond (.t 46) k128_2 (.skip))) k128_14

def k128_16 : ACode := .seq (.seq (.region [W1 40 (.mv (.t 10)), W1 41 (.bin .neq (.t 40) (.c (.int .i64 0)))]) (.cond (.t 41) k128_1 (.skip))) k128_15

def k128_17 : ACode := .seq (.region [W1 32 (.ld (some 5) (.t 3)), W1 33 (.mv (.t 1)), W1 34 (.fld 1 (.t 5)), W1 35 (.ld (some 1) (.t 34)), W1 36 (.call 65 [(.t 32), (.t 33), (.t 35)]), W1 31 (.mv (.t 36)), W1 37 (.ext (.t 31) 0), W1 38 (.ext (.t 31) 1), W1 39 (.ext (.t 31) 2), W1 9 (.new [.int .i64 0, .int .i64 0, .int .i64 0, .int .i64 0]), W1 8 (.mv (.t 37)), ⟨none, .st 4 (.t 9) (.t 38), none⟩, W1 10 (.mv (.t 39))]) k128_16

def k128_18 : ACode := .seq (.seq (.region [W1 12 (.ld (some 6) (.t 5)), W1 13 (.call 79 [(.t 12)]), W1 14 (.un .not (.t 13)), W1 15 (.mv (.t 14)), ⟨(some 16), .fld 0 (.t 5), (some (15, false))⟩, ⟨(some 17), .ld none (.t 16), (some (15, false))⟩, ⟨(some 18), .bin .neq (.t 17) (.c (.int .i64 2)), (some (15, false))⟩, ⟨(some 19), .mv (.t 18), (some (15, false))⟩, ⟨(some 20), .fld 0 (.t 5), (some (19, true))⟩, ⟨(some 21), .ld none (.t 20), (some (19, true))⟩, ⟨(some 22), .bin .neq (.t 21) (.c (.int .i64 3)), (some (19, true))⟩,
 ⟨(some 23), .pick (.t 19) (.t 22) (.c (.bool false)), (some (15, false))⟩, ⟨(some 24), .mv (.t 23), (some (15, false))⟩, ⟨(some 25), .fld 0 (.t 5), (some (24, true))⟩, ⟨(some 26), .ld none (.t 25), (some (24, true))⟩, ⟨(some 27), .bin .neq (.t 26) (.c (.int .i64 4)), (some (24, true))⟩, ⟨(some 28), .pick (.t 24) (.t 27) (.c (.bool false)), (some (15, false))⟩, W1 29 (.pick (.t 15) (.c (.bool true)) (.t 28))]) (.cond (.t 29) k128_0 (.skip))) k128_17

def c128 : ACode := .seq (.region [W1 3 (.box (.t 0)), W1 5 (.box (.t 2)), W1 6 (.new [.int .i64 0, .int .i64 0, .int .i64 0, .lit (.slice none 0 0), .lit (.slice none 0 0)]), W1 7 (.mv (.c (.int .i64 0)))]) k128_18
theorem ok128 : fnOk Tryz.prog 128 c128 96 [.c 6 (some 5), .t 7] = true := by kernel_rfl

def k145_0 : ACode := .cond (.t 24) (.seq (.region [W1 4 (.mv (.c (.bool false)))]) (.ret)) (.skip)

def k145_1 : ACode := .drawn [(0, W1 39 (.fld 3 (.t 2))), (1, W1 40 (.ld none (.t 39))), (3, W1 42 (.fld 3 (.t 2))), (4, W1 43 (.ld none (.t 42))), (5, W1 44 (.mv (.t 1))), (6, W1 45 (.ixs 5 (.t 43) (.t 44))), (7, W1 46 (.fld 4 (.t 45))), (8, W1 47 (.ld none (.t 46))), (2, W1 41 (.mv (.t 5))), (9, W1 48 (.ixs 5 (.t 40) (.t 41))), (10, W1 49 (.fld 4 (.t 48))), (11, ⟨none, .st 1 (.t 49) (.t 47), none⟩)] [[], [0], [], [], [3], [], [4, 5], [6], [7], [1, 2, 0, 1, 2, 3, 4, 5, 6, 7, 8], [9, 0, 1, 2, 3, 4, 5, 6, 7, 8], [10, 8, 0, 1, 2, 3, 4, 5, 6, 7, 8]] 0

def k145_2 : ACode := .seq (.region [W1 31 (.fld 3 (.t 2)), W1 32 (.ld none (.t 31)), W1 33 (.mv (.t 5)), W1 34 (.ixs 5 (.t 32) (.t 33)), W1 35 (.fld 4 (.t 34)), W1 36 (.ld none (.t 35)), W1 37 (.mv (.t 1)), W1 38 (.bin .eql (.t 36) (.t 37))]) (.cond (.t 38) k145_1 (.skip))

def k145_3 : ACode := .seq (.block 1 ( .seq (.region [W1 30 (.mv (.t 28)), W1 5 (.mv (.t 30))]) k145_2)) (.region [W1 50 (.bin .add (.t 28) (.c (.int .i64 1))), W1 28 (.mv (.t 50))])

def b145_4 : ACode := .seq (.region [W1 29 (.bin .lss (.t 28) (.t 27))]) (.seq (.cond (.t 29) (.skip) (.exit 0)) k145_3)

def k145_5 : ACode := .region [W1 71 (.fld 4 (.t 2)), W1 72 (.ld none (.t 71)), W1 73 (.mv (.t 6)), W1 74 (.ixs 13 (.t 72) (.t 73)), W1 75 (.fld 5 (.t 74)), ⟨none, .st 1 (.t 75) (.c (.int .i64 0)), none⟩]

def k145_6 : ACode := .seq (.region [W1 62 (.fld 4 (.t 2)), W1 63 (.ld none (.t 62)), W1 64 (.mv (.t 6)), W1 65 (.ixs 13 (.t 63) (.t 64)), W1 66 (.fld 5 (.t 65)), W1 67 (.ld none (.t 66)), W1 68 (.mv (.t 1)), W1 69 (.bin .add (.t 68) (.c (.int .i64 1))), W1 70 (.bin .eql (.t 67) (.t 69))]) (.cond (.t 70) k145_5 (.skip))

def k145_7 : ACode := .seq (.block 3 ( .seq (.region [W1 61 (.mv (.t 59)), W1 6 (.mv (.t 61))]) k145_6)) (.region [W1 76 (.bin .add (.t 59) (.c (.int .i64 1))), W1 59 (.mv (.t 76))])

def b145_8 : ACode := .seq (.region [W1 60 (.bin .lss (.t 59) (.t 58))]) (.seq (.cond (.t 60) (.skip) (.exit 2)) k145_7)

def k145_9 : ACode := .seq (.seq (.region [W1 56 (.fld 4 (.t 2)), W1 57 (.ld none (.t 56)), W1 58 (.len false (.t 57)), W1 59 (.mv (.c (.int .i64 0)))]) (.block 2 ( .loop b145_8))) (.seq (.region [W1 4 (.mv (.c (.bool true)))]) (.ret))

def k145_10 : ACode := .seq (.region [W1 51 (.fld 3 (.t 2)), W1 52 (.ld none (.t 51)), W1 53 (.mv (.t 1)), W1 54 (.build [.int .i64 0, .int .i64 0, .int .i64 0, .int .i64 0, .int .i64 0] [(4, 1, (.c (.int .i64 (-1))))]), W1 55 (.ixs 5 (.t 52) (.t 53)), ⟨none, .st 5 (.t 55) (.t 54), none⟩]) k145_9

def k145_11 : ACode := .seq (.seq (.region [W1 25 (.fld 3 (.t 2)), W1 26 (.ld none (.t 25)), W1 27 (.len false (.t 26)), W1 28 (.mv (.c (.int .i64 0)))]) (.block 0 ( .loop b145_4))) k145_10

def k145_12 : ACode := .seq (.seq (.region [W1 7 (.mv (.t 1)), W1 8 (.bin .lss (.t 7) (.c (.int .i64 0))), W1 9 (.mv (.t 8)), ⟨(some 10), .mv (.t 1), (some (9, false))⟩, ⟨(some 11), .fld 3 (.t 2), (some (9, false))⟩, ⟨(some 12), .ld none (.t 11), (some (9, false))⟩, ⟨(some 13), .len false (.t 12), (some (9, false))⟩, ⟨(some 14), .bin .geq (.t 10) (.t 13), (some (9, false))⟩, W1 15 (.pick (.t 9) (.c (.bool true)) (.t 14)), W1 16 (.mv (.t 15)), ⟨(some 17), .fld 3 (.t 2), (some (16, false))⟩, ⟨(some 18), .ld none (.t 17), (some (16, false))⟩, ⟨(some 19), .mv (.t 1), (some (16, false))⟩,
 ⟨(some 20), .ixs 5 (.t 18) (.t 19), (some (16, false))⟩, ⟨(some 21), .fld 0 (.t 20), (some (16, false))⟩, ⟨(some 22), .ld (some 4) (.t 21), (some (16, false))⟩, ⟨(some 23), .call 68 [(.t 22)], (some (16, false))⟩, W1 24 (.pick (.t 16) (.c (.bool true)) (.t 23))]) k145_0) k145_11

def c145 : ACode := .seq (.region [W1 2 (.box (.t 0)), W1 4 (.mv (.c (.bool false)))]) k145_12
theorem ok145 : fnOk Tryz.prog 145 c145 77 [.t 4] = true := by kernel_rfl

def k146_0 : ACode := .cond (.t 35) (.seq (.region [W1 4 (.mv (.c (.int .i64 0))), W1 5 (.mv (.c (.bool false)))]) (.ret)) (.skip)

def k146_1 : ACode := .cond (.t 52) (.region [W1 53 (.mv (.t 8)), W1 54 (.bin .add (.t 53) (.c (.int .i64 1))), W1 8 (.mv (.t 54))]) (.skip)

def k146_2 : ACode := .seq (.region [W1 42 (.fld 0 (.t 6)), W1 43 (.ld none (.t 42)), W1 44 (.bin .eql (.t 43) (.c (.int .i64 2))), W1 45 (.mv (.t 44)), ⟨(some 46), .ld (some 5) (.t 2), (some (45, true))⟩, ⟨(some 47), .fld 2 (.t 6), (some (45, true))⟩, ⟨(some 48), .ld none (.t 47), (some (45, true))⟩, ⟨(some 49), .mv (.t 9), (some (45, true))⟩, ⟨(some 50), .bin .add (.t 48) (.t 49), (some (45, true))⟩, ⟨(some 51), .call 145 [(.t 46), (.t 50)], (some (45, true))⟩, W1 52 (.pick (.t 45) (.t 51) (.c (.bool false)))]) k146_1

def k146_3 : ACode := .seq (.block 1 ( .seq (.region [W1 41 (.mv (.t 39)), W1 9 (.mv (.t 41))]) k146_2)) (.region [W1 55 (.bin .add (.t 39) (.c (.int .i64 1))), W1 39 (.mv (.t 55))])

def b146_4 : ACode := .seq (.region [W1 40 (.bin .lss (.t 39) (.t 38))]) (.seq (.cond (.t 40) (.skip) (.exit 0)) k146_3)

def k146_5 : ACode := .seq (.region [W1 61 (.mv (.t 8)), W1 4 (.mv (.t 61)), W1 5 (.mv (.c (.bool true)))]) (.ret)

def k146_6 : ACode := .seq (.region [W1 56 (.fld 4 (.t 2)), W1 57 (.ld none (.t 56)), W1 58 (.mv (.t 1)), W1 59 (.build [.int .i64 0, .int .i64 0, .int .i64 0, .int .i64 0, .int .i64 0, .int .i64 0, .int .i64 0, .bool false, .int .u64 0, .int .u64 0, .int .u64 0, .int .u64 0, .int .u64 0] []), W1 60 (.ixs 13 (.t 57) (.t 58)), ⟨none, .st 13 (.t 60) (.t 59), none⟩]) k146_5

def k146_7 : ACode := .seq (.seq (.region [W1 36 (.fld 1 (.t 6)), W1 37 (.ld none (.t 36)), W1 38 (.bin .shl (.c (.int .i64 1)) (.t 37)), W1 39 (.mv (.c (.int .i64 0)))]) (.block 0 ( .loop b146_4))) k146_6

def k146_8 : ACode := .seq (.seq (.region [W1 25 (.fld 0 (.t 6)), W1 26 (.ld none (.t 25)), W1 27 (.bin .eql (.t 26) (.c (.int .i64 0))), W1 28 (.mv (.t 27)), ⟨(some 29), .mv (.t 7), (some (28, false))⟩, W1 30 (.pick (.t 28) (.c (.bool true)) (.t 29)), W1 31 (.mv (.t 30)), ⟨(some 32), .ld (some 5) (.t 2), (some (31, false))⟩, ⟨(some 33), .mv (.t 1), (some (31, false))⟩, ⟨(some 34), .call 220 [(.t 32), (.t 33)], (some (31, false))⟩, W1 35 (.pick (.t 31) (.c (.bool true)) (.t 34))]) k146_0) (.seq (.region [W1 8 (.mv (.c (.int .i64 0)))]) k146_7)

def k146_9 : ACode := .seq (.region [W1 15 (.mv (.t 1)), W1 16 (.bin .geq (.t 15) (.c (.int .i64 2))), W1 17 (.mv (.t 16)), ⟨(some 18), .mv (.t 1), (some (17, true))⟩, ⟨(some 19), .fld 0 (.t 2), (some (17, true))⟩, ⟨(some 20), .fld 0 (.t 19), (some (17, true))⟩, ⟨(some 21), .ld none (.t 20), (some (17, true))⟩, ⟨(some 22), .bin .add (.c (.int .i64 2)) (.t 21), (some (17, true))⟩, ⟨(some 23), .bin .lss (.t 18) (.t 22), (some (17, true))⟩, W1 24 (.pick (.t 17) (.t 23) (.c (.bool false))), W1 7 (.mv (.t 24))]) k146_8

def k146_10 : ACode := .seq (.region [W1 10 (.fld 4 (.t 2)), W1 11 (.ld none (.t 10)), W1 12 (.mv (.t 1)), W1 13 (.ixs 13 (.t 11) (.t 12)), W1 14 (.ld (some 13) (.t 13)), W1 6 (.new [.int .i64 0, .int .i64 0, .int .i64 0, .int .i64 0, .int .i64 0, .int .i64 0, .int .i64 0, .bool false, .int .u64 0, .int .u64 0, .int .u64 0, .int .u64 0, .int .u64 0]), ⟨none, .st 13 (.t 6) (.t 14), none⟩]) k146_9

def c146 : ACode := .seq (.region [W1 2 (.box (.t 0)), W1 4 (.mv (.c (.int .i64 0))), W1 5 (.mv (.c (.bool false)))]) k146_10
theorem ok146 : fnOk Tryz.prog 146 c146 62 [.t 4, .t 5] = true := by kernel_rfl

def k178_0 : ACode := .region [W1 43 (.ld (some 5) (.t 4)), W1 44 (.mv (.t 2)), W1 45 (.call 239 [(.t 43), (.t 44)]), W1 46 (.bin .lss (.t 45) (.c (.int .i64 0))), W1 14 (.mv (.t 46))]

def k178_1 : ACode := .seq (.region [W1 18 (.mv (.t 1)), W1 19 (.bin .lss (.t 18) (.c (.int .i64 0))), W1 20 (.mv (.t 19)), ⟨(some 21), .mv (.t 1), (some (20, false))⟩, ⟨(some 22), .mv (.t 10), (some (20, false))⟩, ⟨(some 23), .bin .geq (.t 21) (.t 22), (some (20, false))⟩, W1 24 (.pick (.t 20) (.c (.bool true)) (.t 23)), W1 25 (.mv (.t 24)), ⟨(some 26), .mv (.t 2), (some (25, false))⟩, ⟨(some 27), .bin .lss (.t 26) (.c (.int .i64 0)), (some (25, false))⟩, W1 28 (.pick (.t 25) (.c (.bool true)) (.t 27)), W1 29 (.mv (.t 28)), ⟨(some 30), .mv (.t 2), (some (29, false))⟩,
 ⟨(some 31), .mv (.t 10), (some (29, false))⟩, ⟨(some 32), .bin .geq (.t 30) (.t 31), (some (29, false))⟩, W1 33 (.pick (.t 29) (.c (.bool true)) (.t 32)), W1 34 (.mv (.t 33)), ⟨(some 35), .ld (some 4) (.t 7), (some (34, false))⟩, ⟨(some 36), .call 51 [(.t 35)], (some (34, false))⟩, ⟨(some 37), .un .not (.t 36), (some (34, false))⟩, W1 38 (.pick (.t 34) (.c (.bool true)) (.t 37)), W1 39 (.mv (.t 38)), ⟨(some 40), .ld (some 4) (.t 7), (some (39, false))⟩, ⟨(some 41), .call 68 [(.t 40)], (some (39, false))⟩, W1 42 (.pick (.t 39) (.c (.bool true)) (.t 41)), W1 14 (.mv (.t 42))]) (.cond (.t 14)
 (.skip) k178_0)

def k178_2 : ACode := .seq (.region [W1 47 (.ld (some 5) (.t 4)), ⟨none, .st 5 (.t 8) (.t 47), none⟩, W1 9 (.mv (.c (.int .i64 1)))]) (.ret)

def k178_3 : ACode := .seq (.region [W1 56 (.ld (some 5) (.t 4)), ⟨none, .st 5 (.t 8) (.t 56), none⟩, W1 9 (.mv (.c (.int .i64 4)))]) (.ret)

def k178_4 : ACode := .seq (.region [W1 66 (.ld (some 5) (.t 4)), ⟨none, .st 5 (.t 8) (.t 66), none⟩, W1 9 (.mv (.c (.int .i64 5)))]) (.ret)

def k178_5 : ACode := .seq (.region [W1 76 (.ld (some 5) (.t 4)), ⟨none, .st 5 (.t 8) (.t 76), none⟩, W1 9 (.mv (.c (.int .i64 7)))]) (.ret)

def k178_6 : ACode := .region [W1 87 (.ld (some 5) (.t 4)), W1 88 (.ld (some 4) (.t 7)), W1 89 (.mv (.t 2)), W1 90 (.call 212 [(.t 87), (.t 88), (.t 89)]), W1 77 (.mv (.t 90))]

def k178_7 : ACode := .seq (.region [W1 91 (.ld (some 5) (.t 4)), ⟨none, .st 5 (.t 8) (.t 91), none⟩, W1 9 (.mv (.c (.int .i64 1)))]) (.ret)

def k178_8 : ACode := .seq (.seq (.drawn [(0, W1 78 (.ld (some 4) (.t 7))), (1, W1 79 (.fld 3 (.t 4))), (2, W1 80 (.ld none (.t 79))), (3, W1 81 (.mv (.t 1))), (4, W1 82 (.ixs 5 (.t 80) (.t 81))), (5, W1 83 (.fld 0 (.t 82))), (6, W1 84 (.ld (some 4) (.t 83))), (7, W1 85 (.call 93 [(.t 78), (.t 84)])), (8, W1 86 (.un .not (.t 85))), (9, W1 77 (.mv (.t 86)))] [[], [], [1], [], [2, 3], [4], [5], [0, 6], [7], [8, 7]] 0) (.cond (.t 77) (.skip) k178_6)) (.cond (.t 77) k178_7 (.skip))

def k178_9 : ACode := .seq (.region [W1 68 (.fld 3 (.t 4)), W1 69 (.ld none (.t 68)), W1 70 (.mv (.t 1)), W1 71 (.ixs 5 (.t 69) (.t 70)), W1 72 (.fld 0 (.t 71)), W1 73 (.fld 0 (.t 72)), W1 74 (.ld none (.t 73)), W1 75 (.bin .eql (.t 74) (.c (.int .i64 1))), W1 67 (.mv (.t 75))]) (.cond (.t 67) k178_5 k178_8)

def k178_10 : ACode := .seq (.region [W1 58 (.fld 3 (.t 4)), W1 59 (.ld none (.t 58)), W1 60 (.mv (.t 2)), W1 61 (.ixs 5 (.t 59) (.t 60)), W1 62 (.fld 0 (.t 61)), W1 63 (.ld (some 4) (.t 62)), W1 64 (.call 68 [(.t 63)]), W1 65 (.un .not (.t 64)), W1 57 (.mv (.t 65))]) (.cond (.t 57) k178_4 k178_9)

def k178_11 : ACode := .seq (.region [W1 49 (.fld 3 (.t 4)), W1 50 (.ld none (.t 49)), W1 51 (.mv (.t 1)), W1 52 (.ixs 5 (.t 50) (.t 51)), W1 53 (.fld 0 (.t 52)), W1 54 (.ld (some 4) (.t 53)), W1 55 (.call 68 [(.t 54)]), W1 48 (.mv (.t 55))]) (.cond (.t 48) k178_3 k178_10)

def k178_12 : ACode := .seq (.region [W1 101 (.ld (some 5) (.t 4)), ⟨none, .st 5 (.t 8) (.t 101), none⟩, W1 9 (.mv (.c (.int .i64 0)))]) (.ret)

def k178_13 : ACode := .seq (.region [W1 94 (.fld 3 (.t 4)), W1 95 (.ld none (.t 94)), W1 96 (.mv (.t 2)), W1 97 (.ld (some 4) (.t 7)), W1 98 (.mv (.t 1)), W1 99 (.build [.int .i64 0, .int .i64 0, .int .i64 0, .int .i64 0, .int .i64 0] [(0, 4, (.t 97)), (4, 1, (.t 98))]), W1 100 (.ixs 5 (.t 95) (.t 96)), ⟨none, .st 5 (.t 100) (.t 99), none⟩]) k178_12

def k178_14 : ACode := .seq (.region [W1 92 (.ld (some 5) (.t 4)), W1 93 (.call 27 [(.t 92)]), ⟨none, .st 5 (.t 4) (.t 93), none⟩]) k178_13

def k178_15 : ACode := .seq (.block 0 ( .seq (.seq (.region [W1 15 (.ld (some 5) (.t 4)), W1 16 (.call 26 [(.t 15)]), W1 17 (.un .not (.t 16)), W1 14 (.mv (.t 17))]) (.cond (.t 14) (.skip) k178_1)) (.cond (.t 14) k178_2 k178_11))) k178_14

def k178_16 : ACode := .seq (.region [W1 11 (.fld 3 (.t 4)), W1 12 (.ld none (.t 11)), W1 13 (.len false (.t 12)), W1 10 (.mv (.t 13))]) k178_15

def c178 : ACode := .seq (.region [W1 4 (.box (.t 0)), W1 7 (.box (.t 3)), W1 8 (.new [.int .i64 0, .int .i64 0, .int .i64 0, .lit (.slice none 0 0), .lit (.slice none 0 0)]), W1 9 (.mv (.c (.int .i64 0)))]) k178_16
theorem ok178 : fnOk Tryz.prog 178 c178 102 [.c 8 (some 5), .t 9] = true := by kernel_rfl

def k207_0 : ACode := .cond (.t 28) (.seq (.region [W1 4 (.mv (.c (.int .i64 0)))]) (.ret)) (.skip)

def k207_1 : ACode := .cond (.t 34) (.seq (.region [W1 4 (.mv (.c (.int .i64 0)))]) (.ret)) (.skip)

def k207_2 : ACode := .seq (.drawn [(0, W1 35 (.fld 4 (.t 2))), (1, W1 36 (.ld none (.t 35))), (2, W1 37 (.fld 3 (.t 2))), (3, W1 38 (.ld none (.t 37))), (4, W1 39 (.mv (.t 1))), (5, W1 40 (.ixs 5 (.t 38) (.t 39))), (6, W1 41 (.fld 0 (.t 40))), (7, W1 42 (.fld 1 (.t 41))), (8, W1 43 (.ld none (.t 42))), (9, W1 44 (.ixs 13 (.t 36) (.t 43))), (10, W1 45 (.fld 4 (.t 44))), (11, W1 46 (.ld none (.t 45))), (12, W1 4 (.mv (.t 46)))] [[], [0], [], [2], [], [3, 4], [5], [6], [7], [1, 8], [9], [10], [11, 0, 1, 2, 3, 4, 5, 6, 7, 8, 9, 10, 11]] 0) (.ret)

def k207_3 : ACode := .seq (.seq (.region [W1 29 (.ld (some 5) (.t 2)), W1 30 (.call 100 [(.t 29)]), W1 31 (.mv (.t 1)), W1 32 (.call 245 [(.t 30), (.t 31)]), W1 33 (.len false (.t 32)), W1 34 (.bin .eql (.t 33) (.c (.int .i64 0)))]) k207_1) k207_2

def k207_4 : ACode := .seq (.seq (.region [W1 5 (.ld (some 5) (.t 2)), W1 6 (.call 26 [(.t 5)]), W1 7 (.un .not (.t 6)), W1 8 (.mv (.t 7)), ⟨(some 9), .mv (.t 1), (some (8, false))⟩, ⟨(some 10), .bin .lss (.t 9) (.c (.int .i64 0)), (some (8, false))⟩, W1 11 (.pick (.t 8) (.c (.bool true)) (.t 10)), W1 12 (.mv (.t 11)), ⟨(some 13), .mv (.t 1), (some (12, false))⟩, ⟨(some 14), .fld 3 (.t 2), (some (12, false))⟩, ⟨(some 15), .ld none (.t 14), (some (12, false))⟩, ⟨(some 16), .len false (.t 15), (some (12, false))⟩, ⟨(some 17), .bin .geq (.t 13) (.t 16), (some (12, false))⟩,
 W1 18 (.pick (.t 12) (.c (.bool true)) (.t 17)), W1 19 (.mv (.t 18)), ⟨(some 20), .fld 3 (.t 2), (some (19, false))⟩, ⟨(some 21), .ld none (.t 20), (some (19, false))⟩, ⟨(some 22), .mv (.t 1), (some (19, false))⟩, ⟨(some 23), .ixs 5 (.t 21) (.t 22), (some (19, false))⟩, ⟨(some 24), .fld 0 (.t 23), (some (19, false))⟩, ⟨(some 25), .fld 0 (.t 24), (some (19, false))⟩, ⟨(some 26), .ld none (.t 25), (some (19, false))⟩, ⟨(some 27), .bin .neq (.t 26) (.c (.int .i64 1)), (some (19, false))⟩, W1 28 (.pick (.t 19) (.c (.bool true)) (.t 27))]) k207_0) k207_3

def c207 : ACode := .seq (.region [W1 2 (.box (.t 0)), W1 4 (.mv (.c (.int .i64 0)))]) k207_4
theorem ok207 : fnOk Tryz.prog 207 c207 47 [.t 4] = true := by kernel_rfl

def k212_0 : ACode := .seq (.region [W1 7 (.fld 0 (.t 4)), W1 8 (.ld none (.t 7)), W1 9 (.bin .eql (.t 8) (.c (.int .i64 2))), W1 10 (.mv (.t 9)), ⟨(some 11), .ld (some 5) (.t 3), (some (10, true))⟩, ⟨(some 12), .fld 1 (.t 4), (some (10, true))⟩, ⟨(some 13), .ld none (.t 12), (some (10, true))⟩, ⟨(some 14), .mv (.t 2), (some (10, true))⟩, ⟨(some 15), .call 249 [(.t 11), (.t 13), (.t 14)], (some (10, true))⟩, W1 16 (.pick (.t 10) (.t 15) (.c (.bool false))), W1 6 (.mv (.t 16))]) (.ret)

def c212 : ACode := .seq (.region [W1 3 (.box (.t 0)), W1 4 (.box (.t 1)), W1 6 (.mv (.c (.bool false)))]) k212_0
theorem ok212 : fnOk Tryz.prog 212 c212 17 [.t 6] = true := by kernel_rfl

def k213_0 : ACode := .region [W1 47 (.fld 3 (.t 3)), W1 48 (.ld none (.t 47)), W1 49 (.mv (.t 9)), W1 50 (.mv (.t 10)), W1 51 (.mxn true [(.t 50), (.c (.int .i64 (-1)))]), W1 52 (.ixs 5 (.t 48) (.t 49)), W1 53 (.fld 4 (.t 52)), ⟨none, .st 1 (.t 53) (.t 51), none⟩]

def k213_1 : ACode := .seq (.block 1 ( .seq (.region [W1 44 (.mv (.t 42)), W1 45 (.ixs 1 (.t 40) (.t 42)), W1 46 (.ld none (.t 45)), W1 9 (.mv (.t 44)), W1 10 (.mv (.t 46))]) k213_0)) (.region [W1 54 (.bin .add (.t 42) (.c (.int .i64 1))), W1 42 (.mv (.t 54))])

def b213_2 : ACode := .seq (.region [W1 43 (.bin .lss (.t 42) (.t 41))]) (.seq (.cond (.t 43) (.skip) (.exit 0)) k213_1)

def k213_3 : ACode := .region [W1 70 (.fld 4 (.t 3)), W1 71 (.ld none (.t 70)), W1 72 (.mv (.t 11)), W1 73 (.mv (.t 2)), W1 74 (.bin .add (.t 73) (.c (.int .i64 1))), W1 75 (.ixs 13 (.t 71) (.t 72)), W1 76 (.fld 5 (.t 75)), ⟨none, .st 1 (.t 76) (.t 74), none⟩]

def k213_4 : ACode := .seq (.region [W1 61 (.fld 4 (.t 3)), W1 62 (.ld none (.t 61)), W1 63 (.mv (.t 11)), W1 64 (.ixs 13 (.t 62) (.t 63)), W1 65 (.fld 5 (.t 64)), W1 66 (.ld none (.t 65)), W1 67 (.mv (.t 1)), W1 68 (.bin .add (.t 67) (.c (.int .i64 1))), W1 69 (.bin .eql (.t 66) (.t 68))]) (.cond (.t 69) k213_3 (.skip))

def k213_5 : ACode := .seq (.block 3 ( .seq (.region [W1 60 (.mv (.t 58)), W1 11 (.mv (.t 60))]) k213_4)) (.region [W1 77 (.bin .add (.t 58) (.c (.int .i64 1))), W1 58 (.mv (.t 77))])

def b213_6 : ACode := .seq (.region [W1 59 (.bin .lss (.t 58) (.t 57))]) (.seq (.cond (.t 59) (.skip) (.exit 2)) k213_5)

def k213_7 : ACode := .seq (.seq (.region [W1 55 (.fld 4 (.t 3)), W1 56 (.ld none (.t 55)), W1 57 (.len false (.t 56)), W1 58 (.mv (.c (.int .i64 0)))]) (.block 2 ( .loop b213_6))) (.seq (.region [W1 78 (.ld (some 5) (.t 3)), ⟨none, .st 5 (.t 6) (.t 78), none⟩]) (.ret))

def k213_8 : ACode := .seq (.seq (.region [W1 39 (.fld 0 (.t 7)), W1 40 (.ld none (.t 39)), W1 41 (.len false (.t 40)), W1 42 (.mv (.c (.int .i64 0)))]) (.block 0 ( .loop b213_2))) k213_7

def k213_9 : ACode := .seq (.drawn [(0, W1 22 (.fld 3 (.t 3))), (1, W1 23 (.ld none (.t 22))), (3, W1 25 (.fld 3 (.t 3))), (4, W1 26 (.ld none (.t 25))), (6, W1 28 (.fld 3 (.t 3))), (7, W1 29 (.ld none (.t 28))), (8, W1 30 (.mv (.t 1))), (9, W1 31 (.ixs 5 (.t 29) (.t 30))), (10, W1 32 (.fld 0 (.t 31))), (11, W1 33 (.ld (some 4) (.t 32))), (2, W1 24 (.mv (.t 2))), (13, W1 35 (.ixs 5 (.t 23) (.t 24))), (14, W1 36 (.fld 0 (.t 35))), (15, ⟨none, .st 4 (.t 36) (.t 33), none⟩), (5, W1 27 (.mv (.t 1))), (12, W1 34 (.build [.int .i64 0, .int .i64 0, .int .i64 0, .int .i64 0] [])),
 (16, W1 37 (.ixs 5 (.t 26) (.t 27))), (17, W1 38 (.fld 0 (.t 37))), (18, ⟨none, .st 4 (.t 38) (.t 34), none⟩)] [[], [0], [], [], [3], [], [], [6], [], [7, 8], [9], [10], [], [1, 2, 0, 1, 2, 6, 7, 8, 9, 10, 11], [13, 0, 1, 2, 6, 7, 8, 9, 10, 11], [14, 11, 0, 1, 2, 6, 7, 8, 9, 10, 11], [4, 5, 0, 1, 2, 3, 4, 5, 6, 7, 8, 9, 10, 11, 12, 13, 14, 15], [16, 0, 1, 2, 3, 4, 5, 6, 7, 8, 9, 10, 11, 12, 13, 14, 15], [17, 12, 15, 0, 1, 2, 3, 4, 5, 6, 7, 8, 9, 10, 11, 12, 13, 14, 15]] 0) k213_8

def k213_10 : ACode := .seq (.region [W1 20 (.ld (some 5) (.t 3)), W1 21 (.call 27 [(.t 20)]), ⟨none, .st 5 (.t 3) (.t 21), none⟩]) k213_9

def k213_11 : ACode := .seq (.region [W1 13 (.ld (some 5) (.t 3)), W1 14 (.call 100 [(.t 13)]), W1 15 (.mv (.t 1)), W1 16 (.mv (.t 2)), W1 17 (.call 250 [(.t 14), (.t 15), (.t 16)]), W1 12 (.mv (.t 17)), W1 18 (.ext (.t 12) 0), W1 19 (.ext (.t 12) 1), W1 7 (.new [.lit (.slice none 0 0)]), ⟨none, .st 1 (.t 7) (.t 18), none⟩, W1 8 (.mv (.t 19))]) k213_10

def c213 : ACode := .seq (.region [W1 3 (.box (.t 0)), W1 6 (.new [.int .i64 0, .int .i64 0, .int .i64 0, .lit (.slice none 0 0), .lit (.slice none 0 0)])]) k213_11
theorem ok213 : fnOk Tryz.prog 213 c213 79 [.c 6 (some 5)] = true := by kernel_rfl

def k220_0 : ACode := .seq (.region [W1 5 (.fld 3 (.t 2)), W1 6 (.ld none (.t 5)), W1 7 (.mkf 252 [(.t 3)]), W1 8 (.call 251 [(.t 6), (.t 7)]), W1 4 (.mv (.t 8))]) (.ret)

def c220 : ACode := .seq (.region [W1 2 (.box (.t 0)), W1 3 (.box (.t 1)), W1 4 (.mv (.c (.bool false)))]) k220_0
theorem ok220 : fnOk Tryz.prog 220 c220 9 [.t 4] = true := by kernel_rfl

def k252_0 : ACode := .seq (.region [W1 4 (.fld 0 (.t 2)), W1 5 (.ld (some 4) (.t 4)), W1 6 (.call 68 [(.t 5)]), W1 7 (.un .not (.t 6)), W1 8 (.mv (.t 7)), ⟨(some 9), .fld 0 (.t 2), (some (8, true))⟩, ⟨(some 10), .fld 1 (.t 9), (some (8, true))⟩, ⟨(some 11), .ld none (.t 10), (some (8, true))⟩, ⟨(some 12), .ld none (.t 1), (some (8, true))⟩, ⟨(some 13), .bin .eql (.t 11) (.t 12), (some (8, true))⟩, W1 14 (.pick (.t 8) (.t 13) (.c (.bool false))), W1 3 (.mv (.t 14))]) (.ret)

def c252 : ACode := .seq (.region [W1 2 (.box (.t 0)), W1 3 (.mv (.c (.bool false)))]) k252_0
theorem ok252 : fnOk Tryz.prog 252 c252 15 [.t 3] = true := by kernel_rfl

end Go.Proofs.YtipigjckoejfpaaGreat.Ax

/- The code of functions of the program, for our abstract machine; each is tied to the program by a closed test. Written by gen.py. Conditions: none. -/
namespace Go.Proofs.YtipigjckoejfpaaGreat.Ax
open Go Go.Ax

def k16_0 : ACode := .cond (.t 16) (.seq (.region [W1 0 (.mv (.c (.bool false)))]) (.ret)) (.skip)

def k16_1 : ACode := .cond (.t 91) (.seq (.region [W1 0 (.mv (.c (.bool false)))]) (.ret)) (.skip)

def k16_2 : ACode := .cond (.t 110) (.seq (.region [W1 0 (.mv (.c (.bool false)))]) (.ret)) (.skip)

def k16_3 : ACode := .seq (.region [W1 111 (.ld (some 5) (.t 1)), W1 112 (.call 26 [(.t 111)]), W1 113 (.mv (.t 112)), ⟨(some 114), .ld (some 3) (.t 3), (some (113, true))⟩, ⟨(some 115), .build [.int .i64 0, .int .u64 0, .int .i64 0] [(2, 1, (.c (.int .i64 3)))], (some (113, true))⟩, ⟨(some 116), .eqs false [0, 0, 0] (.t 114) (.t 115), (some (113, true))⟩, W1 117 (.pick (.t 113) (.t 116) (.c (.bool false))), W1 118 (.mv (.t 117)), ⟨(some 119), .fld 4 (.t 2), (some (118, true))⟩, ⟨(some 120), .ld none (.t 119), (some (118, true))⟩,
 ⟨(some 121), .ixs 13 (.t 120) (.c (.int .i64 4)), (some (118, true))⟩, ⟨(some 122), .ld (some 13) (.t 121), (some (118, true))⟩, ⟨(some 123), .build [.int .i64 0, .int .i64 0, .int .i64 0, .int .i64 0, .int .i64 0, .int .i64 0, .int .i64 0, .bool false, .int .u64 0, .int .u64 0, .int .u64 0, .int .u64 0, .int .u64 0] [], (some (118, true))⟩, ⟨(some 124), .eqs false [0, 0, 0, 0, 0, 0, 0, 1, 0, 0, 0, 0, 0] (.t 122) (.t 123), (some (118, true))⟩, W1 125 (.pick (.t 118) (.t 124) (.c (.bool false))), W1 126 (.mv (.t 125)), ⟨(some 127), .fld 4 (.t 2), (some (126, true))⟩,
 ⟨(some 128), .ld none (.t 127), (some (126, true))⟩, ⟨(some 129), .ixs 13 (.t 128) (.c (.int .i64 5)), (some (126, true))⟩, ⟨(some 130), .fld 0 (.t 129), (some (126, true))⟩, ⟨(some 131), .ld none (.t 130), (some (126, true))⟩, ⟨(some 132), .bin .eql (.t 131) (.c (.int .i64 4)), (some (126, true))⟩, W1 133 (.pick (.t 126) (.t 132) (.c (.bool false))), W1 134 (.mv (.t 133)), ⟨(some 135), .fld 3 (.t 2), (some (134, true))⟩, ⟨(some 136), .ld none (.t 135), (some (134, true))⟩, ⟨(some 137), .ixs 5 (.t 136) (.c (.int .i64 4)), (some (134, true))⟩,
 ⟨(some 138), .ld (some 5) (.t 137), (some (134, true))⟩, ⟨(some 139), .build [.int .i64 0, .int .i64 0, .int .i64 0, .int .i64 0] [(0, 1, (.c (.int .i64 4))), (1, 1, (.c (.int .i64 5))), (2, 1, (.c (.int .i64 1)))], (some (134, true))⟩, ⟨(some 140), .build [.int .i64 0, .int .i64 0, .int .i64 0, .int .i64 0, .int .i64 0] [(0, 4, (.t 139)), (4, 1, (.c (.int .i64 0)))], (some (134, true))⟩, ⟨(some 141), .eqs false [0, 0, 0, 0, 0] (.t 138) (.t 140), (some (134, true))⟩, W1 142 (.pick (.t 134) (.t 141) (.c (.bool false))), W1 143 (.mv (.t 142)), ⟨(some 144), .fld 3 (.t 2), (some (143, true))⟩,
 ⟨(some 145), .ld none (.t 144), (some (143, true))⟩, ⟨(some 146), .ixs 5 (.t 145) (.c (.int .i64 17)), (some (143, true))⟩, ⟨(some 147), .fld 0 (.t 146), (some (143, true))⟩, ⟨(some 148), .ld (some 4) (.t 147), (some (143, true))⟩, ⟨(some 149), .call 68 [(.t 148)], (some (143, true))⟩, W1 150 (.pick (.t 143) (.t 149) (.c (.bool false))), W1 151 (.mv (.t 150)), ⟨(some 152), .ld (some 3) (.t 5), (some (151, true))⟩, ⟨(some 153), .build [.int .i64 0, .int .u64 0, .int .i64 0] [(2, 1, (.c (.int .i64 4)))], (some (151, true))⟩,
 ⟨(some 154), .eqs false [0, 0, 0] (.t 152) (.t 153), (some (151, true))⟩, W1 155 (.pick (.t 151) (.t 154) (.c (.bool false))), W1 156 (.mv (.t 155)), ⟨(some 157), .fld 4 (.t 4), (some (156, true))⟩, ⟨(some 158), .ld none (.t 157), (some (156, true))⟩, ⟨(some 159), .ixs 13 (.t 158) (.c (.int .i64 4)), (some (156, true))⟩, ⟨(some 160), .ld (some 13) (.t 159), (some (156, true))⟩, ⟨(some 161), .build [.int .i64 0, .int .i64 0, .int .i64 0, .int .i64 0, .int .i64 0, .int .i64 0, .int .i64 0, .bool false, .int .u64 0, .int .u64 0, .int .u64 0, .int .u64 0, .int .u64 0] [], (some (156, true))⟩,
 ⟨(some 162), .eqs false [0, 0, 0, 0, 0, 0, 0, 1, 0, 0, 0, 0, 0] (.t 160) (.t 161), (some (156, true))⟩, W1 163 (.pick (.t 156) (.t 162) (.c (.bool false))), W1 164 (.mv (.t 163)), ⟨(some 165), .fld 4 (.t 4), (some (164, true))⟩, ⟨(some 166), .ld none (.t 165), (some (164, true))⟩, ⟨(some 167), .ixs 13 (.t 166) (.c (.int .i64 5)), (some (164, true))⟩, ⟨(some 168), .ld (some 13) (.t 167), (some (164, true))⟩,
 ⟨(some 169), .build [.int .i64 0, .int .i64 0, .int .i64 0, .int .i64 0, .int .i64 0, .int .i64 0, .int .i64 0, .bool false, .int .u64 0, .int .u64 0, .int .u64 0, .int .u64 0, .int .u64 0] [], (some (164, true))⟩, ⟨(some 170), .eqs false [0, 0, 0, 0, 0, 0, 0, 1, 0, 0, 0, 0, 0] (.t 168) (.t 169), (some (164, true))⟩, W1 171 (.pick (.t 164) (.t 170) (.c (.bool false))), W1 172 (.mv (.t 171)), ⟨(some 173), .ld (some 3) (.t 7), (some (172, true))⟩, ⟨(some 174), .build [.int .i64 0, .int .u64 0, .int .i64 0] [(2, 1, (.c (.int .i64 1)))], (some (172, true))⟩,
 ⟨(some 175), .eqs false [0, 0, 0] (.t 173) (.t 174), (some (172, true))⟩, W1 176 (.pick (.t 172) (.t 175) (.c (.bool false))), W1 177 (.mv (.t 176)), ⟨(some 178), .fld 3 (.t 6), (some (177, true))⟩, ⟨(some 179), .ld none (.t 178), (some (177, true))⟩, ⟨(some 180), .ixs 5 (.t 179) (.c (.int .i64 18)), (some (177, true))⟩, ⟨(some 181), .fld 4 (.t 180), (some (177, true))⟩, ⟨(some 182), .ld none (.t 181), (some (177, true))⟩, ⟨(some 183), .bin .eql (.t 182) (.c (.int .i64 0)), (some (177, true))⟩, W1 184 (.pick (.t 177) (.t 183) (.c (.bool false))), W1 185 (.mv (.t 184)),
 ⟨(some 186), .fld 3 (.t 6), (some (185, true))⟩, ⟨(some 187), .ld none (.t 186), (some (185, true))⟩, ⟨(some 188), .ixs 5 (.t 187) (.c (.int .i64 4)), (some (185, true))⟩, ⟨(some 189), .fld 4 (.t 188), (some (185, true))⟩, ⟨(some 190), .ld none (.t 189), (some (185, true))⟩, ⟨(some 191), .bin .eql (.t 190) (.c (.int .i64 18)), (some (185, true))⟩, W1 192 (.pick (.t 185) (.t 191) (.c (.bool false))), W1 193 (.mv (.t 192)), ⟨(some 194), .fld 0 (.t 9), (some (193, true))⟩, ⟨(some 195), .ld none (.t 194), (some (193, true))⟩,
 ⟨(some 196), .bin .eql (.t 195) (.c (.int .i64 4)), (some (193, true))⟩, W1 197 (.pick (.t 193) (.t 196) (.c (.bool false))), W1 198 (.mv (.t 197)), ⟨(some 199), .mv (.t 12), (some (198, true))⟩, ⟨(some 200), .bin .eql (.t 199) (.c (.int .i64 1)), (some (198, true))⟩, W1 201 (.pick (.t 198) (.t 200) (.c (.bool false))), W1 202 (.mv (.t 201)), ⟨(some 203), .fld 4 (.t 11), (some (202, true))⟩, ⟨(some 204), .ld none (.t 203), (some (202, true))⟩, ⟨(some 205), .ixs 13 (.t 204) (.c (.int .i64 1)), (some (202, true))⟩, ⟨(some 206), .ld (some 13) (.t 205), (some (202, true))⟩,
 ⟨(some 207), .build [.int .i64 0, .int .i64 0, .int .i64 0, .int .i64 0, .int .i64 0, .int .i64 0, .int .i64 0, .bool false, .int .u64 0, .int .u64 0, .int .u64 0, .int .u64 0, .int .u64 0] [(0, 1, (.c (.int .i64 3))), (7, 1, (.c (.bool true))), (8, 1, (.c (.int .u64 5)))], (some (202, true))⟩, ⟨(some 208), .eqs false [0, 0, 0, 0, 0, 0, 0, 1, 0, 0, 0, 0, 0] (.t 206) (.t 207), (some (202, true))⟩, W1 209 (.pick (.t 202) (.t 208) (.c (.bool false))), W1 210 (.mv (.t 209)), ⟨(some 211), .mv (.t 14), (some (210, true))⟩, ⟨(some 212), .bin .eql (.t 211) (.c (.int .i64 0)), (some (210, true))⟩,
 W1 213 (.pick (.t 210) (.t 212) (.c (.bool false))), W1 214 (.mv (.t 213)), ⟨(some 215), .ld (some 5) (.t 13), (some (214, true))⟩, ⟨(some 216), .ld (some 5) (.t 1), (some (214, true))⟩, ⟨(some 217), .call 34 [(.t 215), (.t 216)], (some (214, true))⟩, W1 218 (.pick (.t 214) (.t 217) (.c (.bool false))), W1 0 (.mv (.t 218))]) (.ret)

def k16_4 : ACode := .seq (.seq (.region [W1 107 (.fld 4 (.t 11)), W1 108 (.ld none (.t 107)), W1 109 (.len false (.t 108)), W1 110 (.bin .neq (.t 109) (.c (.int .i64 16)))]) k16_2) k16_3

def k16_5 : ACode := .seq (.region [W1 103 (.ld (some 5) (.t 1)), W1 104 (.call 69 [(.t 103), (.c (.lit (.slice none 0 0)))]), W1 102 (.mv (.t 104)), W1 105 (.ext (.t 102) 0), W1 106 (.ext (.t 102) 1), W1 13 (.new [.int .i64 0, .int .i64 0, .int .i64 0, .lit (.slice none 0 0), .lit (.slice none 0 0)]), ⟨none, .st 5 (.t 13) (.t 105), none⟩, W1 14 (.mv (.t 106))]) k16_4

def k16_6 : ACode := .seq (.region [W1 97 (.ld (some 5) (.t 10)), W1 98 (.bsl 1 5 [.int .i64 0] [(0, (.c (.int .i64 17))), (1, (.c (.int .i64 17))), (2, (.c (.int .i64 (-1)))), (3, (.c (.int .i64 99))), (4, (.c (.int .i64 20)))]), W1 99 (.call 69 [(.t 97), (.t 98)]), W1 96 (.mv (.t 99)), W1 100 (.ext (.t 96) 0), W1 101 (.ext (.t 96) 1), W1 11 (.new [.int .i64 0, .int .i64 0, .int .i64 0, .lit (.slice none 0 0), .lit (.slice none 0 0)]), ⟨none, .st 5 (.t 11) (.t 100), none⟩, W1 12 (.mv (.t 101))]) k16_5

def k16_7 : ACode := .seq (.region [W1 92 (.fld 4 (.t 10)), W1 93 (.ld none (.t 92)), W1 94 (.build [.int .i64 0, .int .i64 0, .int .i64 0, .int .i64 0, .int .i64 0, .int .i64 0, .int .i64 0, .bool false, .int .u64 0, .int .u64 0, .int .u64 0, .int .u64 0, .int .u64 0] [(0, 1, (.c (.int .i64 3))), (7, 1, (.c (.bool true))), (8, 1, (.c (.int .u64 5))), (5, 1, (.c (.int .i64 18)))]), W1 95 (.ixs 13 (.t 93) (.c (.int .i64 1))), ⟨none, .st 13 (.t 95) (.t 94), none⟩]) k16_6

def k16_8 : ACode := .seq (.seq (.region [W1 52 (.fld 3 (.t 2)), W1 53 (.ld none (.t 52)), W1 54 (.len false (.t 53)), W1 55 (.bin .neq (.t 54) (.c (.int .i64 32))), W1 56 (.mv (.t 55)), ⟨(some 57), .fld 3 (.t 4), (some (56, false))⟩, ⟨(some 58), .ld none (.t 57), (some (56, false))⟩, ⟨(some 59), .len false (.t 58), (some (56, false))⟩, ⟨(some 60), .bin .neq (.t 59) (.c (.int .i64 32)), (some (56, false))⟩, W1 61 (.pick (.t 56) (.c (.bool true)) (.t 60)), W1 62 (.mv (.t 61)), ⟨(some 63), .fld 3 (.t 6), (some (62, false))⟩, ⟨(some 64), .ld none (.t 63), (some (62, false))⟩,
 ⟨(some 65), .len false (.t 64), (some (62, false))⟩, ⟨(some 66), .bin .neq (.t 65) (.c (.int .i64 32)), (some (62, false))⟩, W1 67 (.pick (.t 62) (.c (.bool true)) (.t 66)), W1 68 (.mv (.t 67)), ⟨(some 69), .fld 4 (.t 2), (some (68, false))⟩, ⟨(some 70), .ld none (.t 69), (some (68, false))⟩, ⟨(some 71), .len false (.t 70), (some (68, false))⟩, ⟨(some 72), .bin .neq (.t 71) (.c (.int .i64 16)), (some (68, false))⟩, W1 73 (.pick (.t 68) (.c (.bool true)) (.t 72)), W1 74 (.mv (.t 73)), ⟨(some 75), .fld 4 (.t 4), (some (74, false))⟩, ⟨(some 76), .ld none (.t 75), (some (74, false))⟩,
 ⟨(some 77), .len false (.t 76), (some (74, false))⟩, ⟨(some 78), .bin .neq (.t 77) (.c (.int .i64 16)), (some (74, false))⟩, W1 79 (.pick (.t 74) (.c (.bool true)) (.t 78)), W1 80 (.mv (.t 79)), ⟨(some 81), .fld 4 (.t 10), (some (80, false))⟩, ⟨(some 82), .ld none (.t 81), (some (80, false))⟩, ⟨(some 83), .len false (.t 82), (some (80, false))⟩, ⟨(some 84), .bin .neq (.t 83) (.c (.int .i64 16)), (some (80, false))⟩, W1 85 (.pick (.t 80) (.c (.bool true)) (.t 84)), W1 86 (.mv (.t 85)), ⟨(some 87), .fld 3 (.t 10), (some (86, false))⟩, ⟨(some 88), .ld none (.t 87), (some (86, false))⟩,
 ⟨(some 89), .len false (.t 88), (some (86, false))⟩, ⟨(some 90), .bin .neq (.t 89) (.c (.int .i64 32)), (some (86, false))⟩, W1 91 (.pick (.t 86) (.c (.bool true)) (.t 90))]) k16_1) k16_7

def k16_9 : ACode := .seq (.region [W1 50 (.ld (some 5) (.t 1)), W1 51 (.call 27 [(.t 50)]), W1 10 (.new [.int .i64 0, .int .i64 0, .int .i64 0, .lit (.slice none 0 0), .lit (.slice none 0 0)]), ⟨none, .st 5 (.t 10) (.t 51), none⟩]) k16_8

def k16_10 : ACode := .seq (.drawn [(0, W1 43 (.ld (some 5) (.t 1))), (1, W1 44 (.born 0 (.bsl 1 1 [.int .i64 0] [(0, (.c (.int .i64 6)))]))), (2, W1 45 (.call 70 [(.t 44)])), (3, W1 46 (.build [.int .i64 0, .lit (.slice none 0 0), .lit (.slice none 0 0), .int .i64 0, .int .i64 0, .int .u64 0] [(0, 1, (.c (.int .i64 5))), (1, 1, (.t 45))])), (4, W1 47 (.call 72 [(.t 43), (.c (.int .i64 0)), (.t 46)])), (5, W1 42 (.mv (.t 47))), (6, W1 48 (.ext (.t 42) 0)), (8, W1 8 (.born 1 (.new [.int .i64 0, .int .i64 0, .int .i64 0, .lit (.slice none 0 0), .lit (.slice none 0 0)]))),
 (9, W1 9 (.born 2 (.new [.int .i64 0, .int .u64 0, .int .i64 0]))), (10, ⟨none, .st 5 (.t 8) (.t 48), none⟩), (7, W1 49 (.ext (.t 42) 1)), (11, ⟨none, .st 3 (.t 9) (.t 49), none⟩)] [[], [], [1], [2], [0, 3, 2], [4], [5], [5], [], [], [8, 6, 4, 0, 1, 2, 3, 4, 5, 6, 8, 9], [9, 7, 10, 0, 1, 2, 3, 4, 5, 6, 7, 8, 9, 10]] 3) k16_9

def k16_11 : ACode := .seq (.drawn [(0, W1 35 (.ld (some 5) (.t 1))), (1, W1 36 (.born 0 (.bsl 1 2 [.int .i64 0] [(0, (.c (.int .i64 2))), (1, (.c (.int .i64 1)))]))), (2, W1 37 (.call 70 [(.t 36)])), (3, W1 38 (.build [.int .i64 0, .lit (.slice none 0 0), .lit (.slice none 0 0), .int .i64 0, .int .i64 0, .int .u64 0] [(0, 1, (.c (.int .i64 5))), (1, 1, (.t 37))])), (4, W1 39 (.call 72 [(.t 35), (.c (.int .i64 0)), (.t 38)])), (5, W1 34 (.mv (.t 39))), (6, W1 40 (.ext (.t 34) 0)),
 (8, W1 6 (.born 1 (.new [.int .i64 0, .int .i64 0, .int .i64 0, .lit (.slice none 0 0), .lit (.slice none 0 0)]))), (9, W1 7 (.born 2 (.new [.int .i64 0, .int .u64 0, .int .i64 0]))), (10, ⟨none, .st 5 (.t 6) (.t 40), none⟩), (7, W1 41 (.ext (.t 34) 1)), (11, ⟨none, .st 3 (.t 7) (.t 41), none⟩)] [[], [], [1], [2], [0, 3, 2], [4], [5], [5], [], [], [8, 6, 4, 0, 1, 2, 3, 4, 5, 6, 8, 9], [9, 7, 10, 0, 1, 2, 3, 4, 5, 6, 7, 8, 9, 10]] 3) k16_10

def k16_12 : ACode := .seq (.drawn [(0, W1 27 (.ld (some 5) (.t 1))), (1, W1 28 (.born 0 (.bsl 1 1 [.int .i64 0] [(0, (.c (.int .i64 0)))]))), (2, W1 29 (.call 70 [(.t 28)])), (3, W1 30 (.build [.int .i64 0, .lit (.slice none 0 0), .lit (.slice none 0 0), .int .i64 0, .int .i64 0, .int .u64 0] [(0, 1, (.c (.int .i64 6))), (1, 1, (.t 29))])), (4, W1 31 (.call 72 [(.t 27), (.c (.int .i64 0)), (.t 30)])), (5, W1 26 (.mv (.t 31))), (6, W1 32 (.ext (.t 26) 0)), (8, W1 4 (.born 1 (.new [.int .i64 0, .int .i64 0, .int .i64 0, .lit (.slice none 0 0), .lit (.slice none 0 0)]))),
 (9, W1 5 (.born 2 (.new [.int .i64 0, .int .u64 0, .int .i64 0]))), (10, ⟨none, .st 5 (.t 4) (.t 32), none⟩), (7, W1 33 (.ext (.t 26) 1)), (11, ⟨none, .st 3 (.t 5) (.t 33), none⟩)] [[], [], [1], [2], [0, 3, 2], [4], [5], [5], [], [], [8, 6, 4, 0, 1, 2, 3, 4, 5, 6, 8, 9], [9, 7, 10, 0, 1, 2, 3, 4, 5, 6, 7, 8, 9, 10]] 3) k16_11

def k16_13 : ACode := .seq (.drawn [(0, W1 19 (.ld (some 5) (.t 1))), (1, W1 20 (.born 0 (.bsl 1 1 [.int .i64 0] [(0, (.c (.int .i64 2)))]))), (2, W1 21 (.call 70 [(.t 20)])), (3, W1 22 (.build [.int .i64 0, .lit (.slice none 0 0), .lit (.slice none 0 0), .int .i64 0, .int .i64 0, .int .u64 0] [(0, 1, (.c (.int .i64 5))), (1, 1, (.t 21))])), (4, W1 23 (.call 72 [(.t 19), (.c (.int .i64 0)), (.t 22)])), (5, W1 18 (.mv (.t 23))), (6, W1 24 (.ext (.t 18) 0)), (8, W1 2 (.born 1 (.new [.int .i64 0, .int .i64 0, .int .i64 0, .lit (.slice none 0 0), .lit (.slice none 0 0)]))),
 (9, W1 3 (.born 2 (.new [.int .i64 0, .int .u64 0, .int .i64 0]))), (10, ⟨none, .st 5 (.t 2) (.t 24), none⟩), (7, W1 25 (.ext (.t 18) 1)), (11, ⟨none, .st 3 (.t 3) (.t 25), none⟩)] [[], [], [1], [2], [0, 3, 2], [4], [5], [5], [], [], [8, 6, 4, 0, 1, 2, 3, 4, 5, 6, 8, 9], [9, 7, 10, 0, 1, 2, 3, 4, 5, 6, 7, 8, 9, 10]] 3) k16_12

def k16_14 : ACode := .seq (.region [W1 17 (.call 75 []), W1 1 (.new [.int .i64 0, .int .i64 0, .int .i64 0, .lit (.slice none 0 0), .lit (.slice none 0 0)]), ⟨none, .st 5 (.t 1) (.t 17), none⟩]) k16_13

def k16_15 : ACode := .seq (.seq (.region [W1 15 (.call 67 []), W1 16 (.un .not (.t 15))]) k16_0) k16_14

def c16 : ACode := .seq (.region [W1 0 (.mv (.c (.bool false)))]) k16_15
theorem ok16 : fnOk Tryz.prog 16 c16 219 [.t 0] = true := by kernel_rfl

def k67_0 : ACode := .seq (.region [W1 33 (.ld (some 3) (.t 4)), W1 34 (.build [.int .i64 0, .int .u64 0, .int .i64 0] [(2, 1, (.c (.int .i64 1)))]), W1 35 (.eqs false [0, 0, 0] (.t 33) (.t 34)), W1 36 (.mv (.t 35)), ⟨(some 37), .fld 3 (.t 3), (some (36, true))⟩, ⟨(some 38), .ld none (.t 37), (some (36, true))⟩, ⟨(some 39), .len false (.t 38), (some (36, true))⟩, ⟨(some 40), .bin .eql (.t 39) (.c (.int .i64 32)), (some (36, true))⟩, W1 41 (.pick (.t 36) (.t 40) (.c (.bool false))), W1 42 (.mv (.t 41)), ⟨(some 43), .fld 3 (.t 3), (some (42, true))⟩,
 ⟨(some 44), .ld none (.t 43), (some (42, true))⟩, ⟨(some 45), .ixs 5 (.t 44) (.c (.int .i64 3)), (some (42, true))⟩, ⟨(some 46), .fld 0 (.t 45), (some (42, true))⟩, ⟨(some 47), .ld (some 4) (.t 46), (some (42, true))⟩, ⟨(some 48), .call 68 [(.t 47)], (some (42, true))⟩, W1 49 (.pick (.t 42) (.t 48) (.c (.bool false))), W1 50 (.mv (.t 49)), ⟨(some 51), .fld 3 (.t 3), (some (50, true))⟩, ⟨(some 52), .ld none (.t 51), (some (50, true))⟩, ⟨(some 53), .ixs 5 (.t 52) (.c (.int .i64 2)), (some (50, true))⟩, ⟨(some 54), .fld 0 (.t 53), (some (50, true))⟩,
 ⟨(some 55), .ld (some 4) (.t 54), (some (50, true))⟩, ⟨(some 56), .call 68 [(.t 55)], (some (50, true))⟩, ⟨(some 57), .un .not (.t 56), (some (50, true))⟩, W1 58 (.pick (.t 50) (.t 57) (.c (.bool false))), W1 0 (.mv (.t 58))]) (.ret)

def k67_1 : ACode := .seq (.drawn [(0, W1 26 (.ld (some 5) (.t 1))), (1, W1 27 (.born 0 (.bsl 1 1 [.int .i64 0] [(0, (.c (.int .i64 2)))]))), (2, W1 28 (.call 70 [(.t 27)])), (3, W1 29 (.build [.int .i64 0, .lit (.slice none 0 0), .lit (.slice none 0 0), .int .i64 0, .int .i64 0, .int .u64 0] [(0, 1, (.c (.int .i64 6))), (1, 1, (.t 28))])), (4, W1 30 (.call 72 [(.t 26), (.c (.int .i64 0)), (.t 29)])), (5, W1 25 (.mv (.t 30))), (6, W1 31 (.ext (.t 25) 0)), (8, W1 3 (.born 1 (.new [.int .i64 0, .int .i64 0, .int .i64 0, .lit (.slice none 0 0), .lit (.slice none 0 0)]))),
 (9, W1 4 (.born 2 (.new [.int .i64 0, .int .u64 0, .int .i64 0]))), (10, ⟨none, .st 5 (.t 3) (.t 31), none⟩), (7, W1 32 (.ext (.t 25) 1)), (11, ⟨none, .st 3 (.t 4) (.t 32), none⟩)] [[], [], [1], [2], [0, 3, 2], [4], [5], [5], [], [], [8, 6, 4, 0, 1, 2, 3, 4, 5, 6, 8, 9], [9, 7, 10, 0, 1, 2, 3, 4, 5, 6, 7, 8, 9, 10]] 3) k67_0

def k67_2 : ACode := .seq (.drawn [(0, W1 16 (.ld (some 5) (.t 1))), (1, W1 17 (.born 0 (.bsl 1 1 [.int .i64 0] [(0, (.c (.int .i64 2)))]))), (2, W1 18 (.call 70 [(.t 17)])), (3, W1 19 (.born 1 (.bsl 1 1 [.int .i64 0] [(0, (.c (.int .i64 3)))]))), (4, W1 20 (.call 70 [(.t 19)])), (5, W1 21 (.build [.int .i64 0, .lit (.slice none 0 0), .lit (.slice none 0 0), .int .i64 0, .int .i64 0, .int .u64 0] [(0, 1, (.c (.int .i64 2))), (1, 1, (.t 18)), (2, 1, (.t 20)), (3, 1, (.c (.int .i64 7)))])), (6, W1 22 (.call 43 [(.t 16), (.c (.int .i64 0)), (.t 21)])), (7, W1 15 (.mv (.t 22))),
 (8, W1 23 (.ext (.t 15) 0)), (10, ⟨none, .st 5 (.t 1) (.t 23), none⟩), (9, W1 24 (.ext (.t 15) 1))] [[], [], [1], [], [3, 2], [2, 4], [0, 5, 4], [6], [7], [7], [8, 6, 0, 1, 2, 3, 4, 5, 6, 7, 8]] 2) k67_1

def k67_3 : ACode := .seq (.region [W1 6 (.call 144 []), W1 7 (.bsl 1 1 [.int .i64 0] [(0, (.c (.int .i64 1)))]), W1 8 (.call 70 [(.t 7)]), W1 9 (.bsl 1 1 [.int .i64 0] [(0, (.c (.int .i64 2)))]), W1 10 (.call 70 [(.t 9)]), W1 11 (.build [.int .i64 0, .lit (.slice none 0 0), .lit (.slice none 0 0), .int .i64 0, .int .i64 0, .int .u64 0] [(0, 1, (.c (.int .i64 2))), (1, 1, (.t 8)), (2, 1, (.t 10)), (3, 1, (.c (.int .i64 7)))]), W1 12 (.call 43 [(.t 6), (.c (.int .i64 0)), (.t 11)]), W1 5 (.mv (.t 12)), W1 13 (.ext (.t 5) 0), W1 14 (.ext (.t 5) 1),
 W1 1 (.new [.int .i64 0, .int .i64 0, .int .i64 0, .lit (.slice none 0 0), .lit (.slice none 0 0)]), W1 2 (.new [.int .i64 0, .int .u64 0, .int .i64 0]), ⟨none, .st 5 (.t 1) (.t 13), none⟩, ⟨none, .st 3 (.t 2) (.t 14), none⟩]) k67_2

def c67 : ACode := .seq (.region [W1 0 (.mv (.c (.bool false)))]) k67_3
theorem ok67 : fnOk Tryz.prog 67 c67 59 [.t 0] = true := by kernel_rfl

def k70_0 : ACode := .seq (.region [W1 3 (.mv (.t 0)), W1 4 (.build [.lit (.slice none 0 0)] [(0, 1, (.t 3))]), ⟨none, .st 1 (.t 2) (.t 4), none⟩]) (.ret)

def c70 : ACode := .seq (.region [W1 2 (.new [.lit (.slice none 0 0)])]) k70_0
theorem ok70 : fnOk Tryz.prog 70 c70 5 [.c 2 (some 1)] = true := by kernel_rfl

def k75_0 : ACode := .seq (.drawn [(0, W1 34 (.ld (some 5) (.t 1))), (1, W1 35 (.born 0 (.bsl 1 2 [.int .i64 0] [(0, (.c (.int .i64 2))), (1, (.c (.int .i64 2)))]))), (2, W1 36 (.call 70 [(.t 35)])), (3, W1 37 (.born 1 (.bsl 1 1 [.int .i64 0] [(0, (.c (.int .i64 4)))]))), (4, W1 38 (.call 70 [(.t 37)])), (5, W1 39 (.build [.int .i64 0, .lit (.slice none 0 0), .lit (.slice none 0 0), .int .i64 0, .int .i64 0, .int .u64 0] [(0, 1, (.c (.int .i64 2))), (1, 1, (.t 36)), (2, 1, (.t 38)), (3, 1, (.c (.int .i64 7)))])), (6, W1 40 (.call 43 [(.t 34), (.c (.int .i64 0)), (.t 39)])),
 (7, W1 33 (.mv (.t 40))), (8, W1 41 (.ext (.t 33) 0)), (10, ⟨none, .st 5 (.t 1) (.t 41), none⟩), (9, W1 42 (.ext (.t 33) 1))] [[], [], [1], [], [3, 2], [2, 4], [0, 5, 4], [6], [7], [7], [8, 6, 0, 1, 2, 3, 4, 5, 6, 7, 8]] 2) (.seq (.region [W1 43 (.ld (some 5) (.t 1)), ⟨none, .st 5 (.t 0) (.t 43), none⟩]) (.ret))

def k75_1 : ACode := .seq (.drawn [(0, W1 24 (.ld (some 5) (.t 1))), (1, W1 25 (.born 0 (.bsl 1 2 [.int .i64 0] [(0, (.c (.int .i64 2))), (1, (.c (.int .i64 1)))]))), (2, W1 26 (.call 70 [(.t 25)])), (3, W1 27 (.born 1 (.bsl 1 2 [.int .i64 0] [(0, (.c (.int .i64 2))), (1, (.c (.int .i64 2)))]))), (4, W1 28 (.call 70 [(.t 27)])), (5, W1 29 (.build [.int .i64 0, .lit (.slice none 0 0), .lit (.slice none 0 0), .int .i64 0, .int .i64 0, .int .u64 0] [(0, 1, (.c (.int .i64 2))), (1, 1, (.t 26)), (2, 1, (.t 28)), (3, 1, (.c (.int .i64 1)))])),
 (6, W1 30 (.call 43 [(.t 24), (.c (.int .i64 0)), (.t 29)])), (7, W1 23 (.mv (.t 30))), (8, W1 31 (.ext (.t 23) 0)), (10, ⟨none, .st 5 (.t 1) (.t 31), none⟩), (9, W1 32 (.ext (.t 23) 1))] [[], [], [1], [], [3, 2], [2, 4], [0, 5, 4], [6], [7], [7], [8, 6, 0, 1, 2, 3, 4, 5, 6, 7, 8]] 2) k75_0

def k75_2 : ACode := .seq (.drawn [(0, W1 14 (.ld (some 5) (.t 1))), (1, W1 15 (.born 0 (.bsl 1 1 [.int .i64 0] [(0, (.c (.int .i64 0)))]))), (2, W1 16 (.call 70 [(.t 15)])), (3, W1 17 (.born 1 (.bsl 1 2 [.int .i64 0] [(0, (.c (.int .i64 2))), (1, (.c (.int .i64 1)))]))), (4, W1 18 (.call 70 [(.t 17)])), (5, W1 19 (.build [.int .i64 0, .lit (.slice none 0 0), .lit (.slice none 0 0), .int .i64 0, .int .i64 0, .int .u64 0] [(0, 1, (.c (.int .i64 1))), (1, 1, (.t 16)), (2, 1, (.t 18)), (3, 1, (.c (.int .i64 4)))])), (6, W1 20 (.call 37 [(.t 14), (.c (.int .i64 0)), (.t 19)])),
 (7, W1 13 (.mv (.t 20))), (8, W1 21 (.ext (.t 13) 0)), (10, ⟨none, .st 5 (.t 1) (.t 21), none⟩), (9, W1 22 (.ext (.t 13) 1))] [[], [], [1], [], [3, 2], [2, 4], [0, 5, 4], [6], [7], [7], [8, 6, 0, 1, 2, 3, 4, 5, 6, 7, 8]] 2) k75_1

def k75_3 : ACode := .seq (.region [W1 4 (.call 144 []), W1 5 (.bsl 1 1 [.int .i64 0] [(0, (.c (.int .i64 0)))]), W1 6 (.call 70 [(.t 5)]), W1 7 (.bsl 1 1 [.int .i64 0] [(0, (.c (.int .i64 2)))]), W1 8 (.call 70 [(.t 7)]), W1 9 (.build [.int .i64 0, .lit (.slice none 0 0), .lit (.slice none 0 0), .int .i64 0, .int .i64 0, .int .u64 0] [(0, 1, (.c (.int .i64 1))), (1, 1, (.t 6)), (2, 1, (.t 8)), (3, 1, (.c (.int .i64 2))), (4, 1, (.c (.int .i64 2)))]), W1 10 (.call 37 [(.t 4), (.c (.int .i64 0)), (.t 9)]), W1 3 (.mv (.t 10)), W1 11 (.ext (.t 3) 0), W1 12 (.ext (.t 3) 1),
 W1 1 (.new [.int .i64 0, .int .i64 0, .int .i64 0, .lit (.slice none 0 0), .lit (.slice none 0 0)]), W1 2 (.new [.int .i64 0, .int .u64 0, .int .i64 0]), ⟨none, .st 5 (.t 1) (.t 11), none⟩, ⟨none, .st 3 (.t 2) (.t 12), none⟩]) k75_2

def c75 : ACode := .seq (.region [W1 0 (.new [.int .i64 0, .int .i64 0, .int .i64 0, .lit (.slice none 0 0), .lit (.slice none 0 0)])]) k75_3
theorem ok75 : fnOk Tryz.prog 75 c75 44 [.c 0 (some 5)] = true := by kernel_rfl

def k144_0 : ACode := .seq (.region [W1 4 (.call 148 []), W1 5 (.call 87 [(.t 4), (.c (.int .i64 64))]), W1 3 (.mv (.t 5)), W1 6 (.ext (.t 3) 0), W1 7 (.ext (.t 3) 1), W1 1 (.new [.int .i64 0, .int .i64 0, .int .i64 0, .lit (.slice none 0 0), .lit (.slice none 0 0)]), ⟨none, .st 5 (.t 1) (.t 6), none⟩, W1 2 (.mv (.t 7))]) (.seq (.region [W1 8 (.ld (some 5) (.t 1)), ⟨none, .st 5 (.t 0) (.t 8), none⟩]) (.ret))

def c144 : ACode := .seq (.region [W1 0 (.new [.int .i64 0, .int .i64 0, .int .i64 0, .lit (.slice none 0 0), .lit (.slice none 0 0)])]) k144_0
theorem ok144 : fnOk Tryz.prog 144 c144 9 [.c 0 (some 5)] = true := by kernel_rfl

end Go.Proofs.YtipigjckoejfpaaGreat.Ax
