/- Texts put behind one another: AxCLaw21. Conditions: none. -/
import Derived.Test.YtipigjckoejfpaaGreatAxEnterZ
import Derived.Test.YtipigjckoejfpaaGreatProg
import Derived.KernelRfl
set_option linter.unusedSimpArgs false
set_option linter.unusedVariables false
namespace Go.Proofs.YtipigjckoejfpaaGreat.Ax
open Go Go.Ax

def k18_0 : ACode :=
 .cond (.t 20)
 (.seq (.region [
 ⟨(some 8), .mv (.c (.bool false)), none⟩])
 (.ret))
 (.skip)

def k18_1 : ACode :=
 .cond (.t 34)
 (.seq (.region [
 ⟨(some 8), .mv (.c (.bool true)), none⟩])
 (.ret))
 (.skip)

def k18_2 : ACode :=
 .cond (.t 70)
 (.seq (.region [
 ⟨(some 8), .mv (.c (.bool false)), none⟩])
 (.ret))
 (.skip)

def k18_3 : ACode :=
 .seq (.region [
 ⟨(some 68), .fld 0 (.t 10), none⟩,
 ⟨(some 69), .ld none (.t 68), none⟩,
 ⟨(some 70), .bin .neq (.t 69) (.c (.int .i64 0)), none⟩])
 k18_2

def k18_4 : ACode :=
 .seq (.block 1 (
 .seq (.drawn [
 (0, ⟨(some 60), .ld (some 5) (.t 9), none⟩),
 (1, ⟨(some 61), .mv (.t 11), none⟩),
 (2, ⟨(some 62), .mv (.t 12), none⟩),
 (3, ⟨(some 63), .ixs 6 (.t 61) (.t 62), none⟩),
 (4, ⟨(some 64), .ld (some 6) (.t 63), none⟩),
 (5, ⟨(some 65), .call 78 [(.t 60), (.c (.int .i64 0)), (.t 64)], none⟩),
 (6, ⟨(some 59), .mv (.t 65), none⟩),
 (7, ⟨(some 66), .ext (.t 59) 0, none⟩),
 (9, ⟨none, .st 5 (.t 9) (.t 66), none⟩),
 (8, ⟨(some 67), .ext (.t 59) 1, none⟩),
 (10, ⟨none, .st 3 (.t 10) (.t 67), none⟩)]
 [[], [], [], [1, 2], [3], [0, 4], [5], [6], [6], [7, 5, 0, 1, 2, 3, 4, 5, 6, 7], [8, 9, 0, 1, 2, 3, 4, 5, 6, 7, 8, 9]] 0)
 k18_3))
 (.region [
 ⟨(some 57), .mv (.t 12), none⟩,
 ⟨(some 58), .bin .add (.t 57) (.c (.int .i64 1)), none⟩,
 ⟨(some 12), .mv (.t 58), none⟩])

def b18_5 : ACode :=
 .seq (.seq (.region [
 ⟨(some 53), .mv (.t 12), none⟩,
 ⟨(some 54), .mv (.t 11), none⟩,
 ⟨(some 55), .len false (.t 54), none⟩,
 ⟨(some 56), .bin .lss (.t 53) (.t 55), none⟩])
 (.cond (.t 56)
 (.skip)
 (.exit 0)))
 k18_4

def k18_6 : ACode :=
 .seq (.region [
 ⟨(some 119), .fld 0 (.t 10), none⟩,
 ⟨(some 120), .ld none (.t 119), none⟩,
 ⟨(some 121), .bin .eql (.t 120) (.c (.int .i64 0)), none⟩,
 ⟨(some 122), .mv (.t 121), none⟩,
 ⟨(some 123), .fld 0 (.t 13), (some (122, true))⟩,
 ⟨(some 124), .ld none (.t 123), (some (122, true))⟩,
 ⟨(some 125), .bin .eql (.t 124) (.c (.int .i64 0)), (some (122, true))⟩,
 ⟨(some 126), .pick (.t 122) (.t 125) (.c (.bool false)), none⟩,
 ⟨(some 127), .mv (.t 126), none⟩,
 ⟨(some 128), .fld 0 (.t 14), (some (127, true))⟩,
 ⟨(some 129), .ld none (.t 128), (some (127, true))⟩,
 ⟨(some 130), .bin .eql (.t 129) (.c (.int .i64 0)), (some (127, true))⟩,
 ⟨(some 131), .pick (.t 127) (.t 130) (.c (.bool false)), none⟩,
 ⟨(some 132), .mv (.t 131), none⟩,
 ⟨(some 133), .ld (some 3) (.t 16), (some (132, true))⟩,
 ⟨(some 134), .mv (.t 0), (some (132, true))⟩,
 ⟨(some 135), .build [.int .i64 0, .int .u64 0, .int .i64 0] [(1, 1, (.t 134))], (some (132, true))⟩,
 ⟨(some 136), .eqs false [0, 0, 0] (.t 133) (.t 135), (some (132, true))⟩,
 ⟨(some 137), .pick (.t 132) (.t 136) (.c (.bool false)), none⟩,
 ⟨(some 138), .mv (.t 137), none⟩,
 ⟨(some 139), .ld (some 3) (.t 18), (some (138, true))⟩,
 ⟨(some 140), .mv (.t 1), (some (138, true))⟩,
 ⟨(some 141), .build [.int .i64 0, .int .u64 0, .int .i64 0] [(1, 1, (.t 140))], (some (138, true))⟩,
 ⟨(some 142), .eqs false [0, 0, 0] (.t 139) (.t 141), (some (138, true))⟩,
 ⟨(some 143), .pick (.t 138) (.t 142) (.c (.bool false)), none⟩,
 ⟨(some 8), .mv (.t 143), none⟩])
 (.ret)

def k18_7 : ACode :=
 .seq (.drawn [
 (0, ⟨(some 111), .ld (some 5) (.t 9), none⟩),
 (1, ⟨(some 112), .born 0 (.bsl 1 1 [.int .i64 0] [(0, (.c (.int .i64 4)))]), none⟩),
 (2, ⟨(some 113), .call 81 [(.t 112)], none⟩),
 (3, ⟨(some 114), .mv (.t 3), none⟩),
 (4, ⟨(some 115), .build [.int .i64 0, .lit (.slice none 0 0), .lit (.slice none 0 0), .int .i64 0, .int .i64 0, .int .u64 0] [(0, 1, (.c (.int .i64 12))), (1, 1, (.t 113)), (3, 1, (.t 114))], none⟩),
 (5, ⟨(some 116), .call 78 [(.t 111), (.c (.int .i64 0)), (.t 115)], none⟩),
 (6, ⟨(some 110), .mv (.t 116), none⟩),
 (7, ⟨(some 117), .ext (.t 110) 0, none⟩),
 (9, ⟨(some 17), .born 1 (.new [.int .i64 0, .int .i64 0, .int .i64 0, .lit (.slice none 0 0), .lit (.slice none 0 0)]), none⟩),
 (10, ⟨(some 18), .born 2 (.new [.int .i64 0, .int .u64 0, .int .i64 0]), none⟩),
 (11, ⟨none, .st 5 (.t 17) (.t 117), none⟩),
 (8, ⟨(some 118), .ext (.t 110) 1, none⟩),
 (12, ⟨none, .st 3 (.t 18) (.t 118), none⟩)]
 [[], [], [1], [], [2, 3], [0, 4, 2], [5], [6], [6], [], [], [9, 7, 5, 0, 1, 2, 3, 4, 5, 6, 7, 9, 10], [10, 8, 11, 0, 1, 2, 3, 4, 5, 6, 7, 8, 9, 10, 11]] 3)
 k18_6

def k18_8 : ACode :=
 .seq (.drawn [
 (0, ⟨(some 102), .ld (some 5) (.t 9), none⟩),
 (1, ⟨(some 103), .born 0 (.bsl 1 1 [.int .i64 0] [(0, (.c (.int .i64 3)))]), none⟩),
 (2, ⟨(some 104), .call 81 [(.t 103)], none⟩),
 (3, ⟨(some 105), .mv (.t 2), none⟩),
 (4, ⟨(some 106), .build [.int .i64 0, .lit (.slice none 0 0), .lit (.slice none 0 0), .int .i64 0, .int .i64 0, .int .u64 0] [(0, 1, (.c (.int .i64 12))), (1, 1, (.t 104)), (3, 1, (.t 105))], none⟩),
 (5, ⟨(some 107), .call 78 [(.t 102), (.c (.int .i64 0)), (.t 106)], none⟩),
 (6, ⟨(some 101), .mv (.t 107), none⟩),
 (7, ⟨(some 108), .ext (.t 101) 0, none⟩),
 (9, ⟨(some 15), .born 1 (.new [.int .i64 0, .int .i64 0, .int .i64 0, .lit (.slice none 0 0), .lit (.slice none 0 0)]), none⟩),
 (10, ⟨(some 16), .born 2 (.new [.int .i64 0, .int .u64 0, .int .i64 0]), none⟩),
 (11, ⟨none, .st 5 (.t 15) (.t 108), none⟩),
 (8, ⟨(some 109), .ext (.t 101) 1, none⟩),
 (12, ⟨none, .st 3 (.t 16) (.t 109), none⟩)]
 [[], [], [1], [], [2, 3], [0, 4, 2], [5], [6], [6], [], [], [9, 7, 5, 0, 1, 2, 3, 4, 5, 6, 7, 9, 10], [10, 8, 11, 0, 1, 2, 3, 4, 5, 6, 7, 8, 9, 10, 11]] 3)
 k18_7

def k18_9 : ACode :=
 .seq (.drawn [
 (0, ⟨(some 92), .ld (some 5) (.t 9), none⟩),
 (1, ⟨(some 93), .born 0 (.bsl 1 1 [.int .i64 0] [(0, (.c (.int .i64 2)))]), none⟩),
 (2, ⟨(some 94), .call 81 [(.t 93)], none⟩),
 (3, ⟨(some 95), .mv (.t 3), none⟩),
 (4, ⟨(some 96), .mv (.t 1), none⟩),
 (5, ⟨(some 97), .build [.int .i64 0, .lit (.slice none 0 0), .lit (.slice none 0 0), .int .i64 0, .int .i64 0, .int .u64 0] [(0, 1, (.c (.int .i64 11))), (1, 1, (.t 94)), (3, 1, (.t 95)), (5, 1, (.t 96))], none⟩),
 (6, ⟨(some 98), .call 78 [(.t 92), (.c (.int .i64 1)), (.t 97)], none⟩),
 (7, ⟨(some 91), .mv (.t 98), none⟩),
 (8, ⟨(some 99), .ext (.t 91) 0, none⟩),
 (10, ⟨(some 14), .born 1 (.new [.int .i64 0, .int .u64 0, .int .i64 0]), none⟩),
 (11, ⟨none, .st 5 (.t 9) (.t 99), none⟩),
 (9, ⟨(some 100), .ext (.t 91) 1, none⟩),
 (12, ⟨none, .st 3 (.t 14) (.t 100), none⟩)]
 [[], [], [1], [], [], [2, 3, 4], [0, 5, 2], [6], [7], [7], [], [8, 6, 0, 1, 2, 3, 4, 5, 6, 7, 8, 10], [10, 9, 11, 0, 1, 2, 3, 4, 5, 6, 7, 8, 9, 10, 11]] 2)
 k18_8

def k18_10 : ACode :=
 .seq (.drawn [
 (0, ⟨(some 82), .ld (some 5) (.t 9), none⟩),
 (1, ⟨(some 83), .born 0 (.bsl 1 1 [.int .i64 0] [(0, (.c (.int .i64 3)))]), none⟩),
 (2, ⟨(some 84), .call 81 [(.t 83)], none⟩),
 (3, ⟨(some 85), .mv (.t 2), none⟩),
 (4, ⟨(some 86), .mv (.t 0), none⟩),
 (5, ⟨(some 87), .build [.int .i64 0, .lit (.slice none 0 0), .lit (.slice none 0 0), .int .i64 0, .int .i64 0, .int .u64 0] [(0, 1, (.c (.int .i64 11))), (1, 1, (.t 84)), (3, 1, (.t 85)), (5, 1, (.t 86))], none⟩),
 (6, ⟨(some 88), .call 78 [(.t 82), (.c (.int .i64 0)), (.t 87)], none⟩),
 (7, ⟨(some 81), .mv (.t 88), none⟩),
 (8, ⟨(some 89), .ext (.t 81) 0, none⟩),
 (10, ⟨(some 13), .born 1 (.new [.int .i64 0, .int .u64 0, .int .i64 0]), none⟩),
 (11, ⟨none, .st 5 (.t 9) (.t 89), none⟩),
 (9, ⟨(some 90), .ext (.t 81) 1, none⟩),
 (12, ⟨none, .st 3 (.t 13) (.t 90), none⟩)]
 [[], [], [1], [], [], [2, 3, 4], [0, 5, 2], [6], [7], [7], [], [8, 6, 0, 1, 2, 3, 4, 5, 6, 7, 8, 10], [10, 9, 11, 0, 1, 2, 3, 4, 5, 6, 7, 8, 9, 10, 11]] 2)
 k18_9

def k18_11 : ACode :=
 .seq (.drawn [
 (0, ⟨(some 72), .ld (some 5) (.t 9), none⟩),
 (1, ⟨(some 73), .born 0 (.bsl 1 1 [.int .i64 0] [(0, (.c (.int .i64 1)))]), none⟩),
 (2, ⟨(some 74), .call 81 [(.t 73)], none⟩),
 (3, ⟨(some 75), .born 1 (.bsl 1 1 [.int .i64 0] [(0, (.c (.int .i64 2)))]), none⟩),
 (4, ⟨(some 76), .call 81 [(.t 75)], none⟩),
 (5, ⟨(some 77), .build [.int .i64 0, .lit (.slice none 0 0), .lit (.slice none 0 0), .int .i64 0, .int .i64 0, .int .u64 0] [(0, 1, (.c (.int .i64 8))), (1, 1, (.t 74)), (2, 1, (.t 76))], none⟩),
 (6, ⟨(some 78), .call 78 [(.t 72), (.c (.int .i64 1)), (.t 77)], none⟩),
 (7, ⟨(some 71), .mv (.t 78), none⟩),
 (8, ⟨(some 79), .ext (.t 71) 0, none⟩),
 (10, ⟨none, .st 5 (.t 9) (.t 79), none⟩),
 (9, ⟨(some 80), .ext (.t 71) 1, none⟩),
 (11, ⟨none, .st 3 (.t 10) (.t 80), none⟩)]
 [[], [], [1], [], [3, 2], [2, 4], [0, 5, 4], [6], [7], [7], [8, 6, 0, 1, 2, 3, 4, 5, 6, 7, 8], [9, 10, 0, 1, 2, 3, 4, 5, 6, 7, 8, 9, 10]] 2)
 k18_10

def k18_12 : ACode :=
 .seq (.seq (.region [
 ⟨(some 12), .mv (.c (.int .i64 0)), none⟩])
 (.block 0 (
 .loop b18_5)))
 k18_11

def k18_13 : ACode :=
 .seq (.region [
 ⟨(some 37), .bsl 1 1 [.int .i64 0] [(0, (.c (.int .i64 0)))], none⟩,
 ⟨(some 38), .call 81 [(.t 37)], none⟩,
 ⟨(some 39), .bsl 1 1 [.int .i64 0] [(0, (.c (.int .i64 3)))], none⟩,
 ⟨(some 40), .call 81 [(.t 39)], none⟩,
 ⟨(some 41), .build [.int .i64 0, .lit (.slice none 0 0), .lit (.slice none 0 0), .int .i64 0, .int .i64 0, .int .u64 0] [(0, 1, (.c (.int .i64 1))), (1, 1, (.t 38)), (2, 1, (.t 40)), (3, 1, (.c (.int .i64 5)))], none⟩,
 ⟨(some 42), .bsl 1 1 [.int .i64 0] [(0, (.c (.int .i64 0)))], none⟩,
 ⟨(some 43), .call 81 [(.t 42)], none⟩,
 ⟨(some 44), .bsl 1 1 [.int .i64 0] [(0, (.c (.int .i64 4)))], none⟩,
 ⟨(some 45), .call 81 [(.t 44)], none⟩,
 ⟨(some 46), .build [.int .i64 0, .lit (.slice none 0 0), .lit (.slice none 0 0), .int .i64 0, .int .i64 0, .int .u64 0] [(0, 1, (.c (.int .i64 1))), (1, 1, (.t 43)), (2, 1, (.t 45)), (3, 1, (.c (.int .i64 5)))], none⟩,
 ⟨(some 47), .bsl 1 1 [.int .i64 0] [(0, (.c (.int .i64 1)))], none⟩,
 ⟨(some 48), .call 81 [(.t 47)], none⟩,
 ⟨(some 49), .bsl 1 1 [.int .i64 0] [(0, (.c (.int .i64 4)))], none⟩,
 ⟨(some 50), .call 81 [(.t 49)], none⟩,
 ⟨(some 51), .build [.int .i64 0, .lit (.slice none 0 0), .lit (.slice none 0 0), .int .i64 0, .int .i64 0, .int .u64 0] [(0, 1, (.c (.int .i64 7))), (1, 1, (.t 48)), (2, 1, (.t 50))], none⟩,
 ⟨(some 52), .bsl 6 3 [.int .i64 0, .lit (.slice none 0 0), .lit (.slice none 0 0), .int .i64 0, .int .i64 0, .int .u64 0] [(0, (.t 41)), (1, (.t 46)), (2, (.t 51))], none⟩,
 ⟨(some 11), .mv (.t 52), none⟩])
 k18_12

def k18_14 : ACode :=
 .seq (.region [
 ⟨(some 36), .build [.int .i64 0, .int .u64 0, .int .i64 0] [], none⟩,
 ⟨(some 10), .new [.int .i64 0, .int .u64 0, .int .i64 0], none⟩,
 ⟨none, .st 3 (.t 10) (.t 36), none⟩])
 k18_13

def k18_15 : ACode :=
 .seq (.region [
 ⟨(some 35), .call 80 [], none⟩,
 ⟨(some 9), .new [.int .i64 0, .int .i64 0, .int .i64 0, .lit (.slice none 0 0), .lit (.slice none 0 0)], none⟩,
 ⟨none, .st 5 (.t 9) (.t 35), none⟩])
 k18_14

def k18_16 : ACode :=
 .seq (.seq (.region [
 ⟨(some 21), .mv (.t 2), none⟩,
 ⟨(some 22), .bin .lss (.t 21) (.c (.int .i64 0)), none⟩,
 ⟨(some 23), .mv (.t 22), none⟩,
 ⟨(some 24), .mv (.t 2), (some (23, false))⟩,
 ⟨(some 25), .bin .gtr (.t 24) (.c (.int .i64 3)), (some (23, false))⟩,
 ⟨(some 26), .pick (.t 23) (.c (.bool true)) (.t 25), none⟩,
 ⟨(some 27), .mv (.t 26), none⟩,
 ⟨(some 28), .mv (.t 3), (some (27, false))⟩,
 ⟨(some 29), .bin .lss (.t 28) (.c (.int .i64 0)), (some (27, false))⟩,
 ⟨(some 30), .pick (.t 27) (.c (.bool true)) (.t 29), none⟩,
 ⟨(some 31), .mv (.t 30), none⟩,
 ⟨(some 32), .mv (.t 3), (some (31, false))⟩,
 ⟨(some 33), .bin .gtr (.t 32) (.c (.int .i64 3)), (some (31, false))⟩,
 ⟨(some 34), .pick (.t 31) (.c (.bool true)) (.t 33), none⟩])
 k18_1)
 k18_15

def k18_17 : ACode :=
 .seq (.seq (.region [
 ⟨(some 19), .call 76 [], none⟩,
 ⟨(some 20), .un .not (.t 19), none⟩])
 k18_0)
 k18_16

def c18 : ACode :=
 .seq (.region [
 ⟨(some 8), .mv (.c (.bool false)), none⟩])
 k18_17
theorem ok18 : fnOk Tryz.prog 18 c18 144 [.t 8] = true := by kernel_rfl

def k76_0 : ACode :=
 .seq (.drawn [
 (0, ⟨(some 19), .ld (some 3) (.t 2), none⟩),
 (1, ⟨(some 20), .build [.int .i64 0, .int .u64 0, .int .i64 0] [(0, 1, (.c (.int .i64 2)))], none⟩),
 (2, ⟨(some 21), .eqs false [0, 0, 0] (.t 19) (.t 20), none⟩),
 (3, ⟨(some 22), .mv (.t 21), none⟩),
 (4, ⟨(some 23), .ld (some 5) (.t 1), (some (22, true))⟩),
 (5, ⟨(some 24), .call 80 [], (some (22, true))⟩),
 (6, ⟨(some 25), .call 34 [(.t 23), (.t 24)], (some (22, true))⟩),
 (7, ⟨(some 26), .pick (.t 22) (.t 25) (.c (.bool false)), none⟩),
 (8, ⟨(some 27), .mv (.t 26), none⟩),
 (9, ⟨(some 28), .fld 0 (.t 4), (some (27, true))⟩),
 (10, ⟨(some 29), .ld none (.t 28), (some (27, true))⟩),
 (11, ⟨(some 30), .bin .eql (.t 29) (.c (.int .i64 0)), (some (27, true))⟩),
 (12, ⟨(some 31), .pick (.t 27) (.t 30) (.c (.bool false)), none⟩),
 (13, ⟨(some 32), .mv (.t 31), none⟩),
 (14, ⟨(some 33), .ld (some 5) (.t 3), (some (32, true))⟩),
 (15, ⟨(some 34), .call 80 [], (some (32, true))⟩),
 (16, ⟨(some 35), .call 34 [(.t 33), (.t 34)], (some (32, true))⟩),
 (17, ⟨(some 36), .pick (.t 32) (.t 35) (.c (.bool false)), none⟩),
 (18, ⟨(some 37), .mv (.t 36), none⟩),
 (19, ⟨(some 38), .call 86 [(.c (.int .i64 13))], (some (37, true))⟩),
 (20, ⟨(some 39), .pick (.t 37) (.t 38) (.c (.bool false)), none⟩),
 (21, ⟨(some 40), .mv (.t 39), none⟩),
 (22, ⟨(some 41), .call 86 [(.c (.int .i64 11))], (some (40, true))⟩),
 (23, ⟨(some 42), .un .not (.t 41), (some (40, true))⟩),
 (24, ⟨(some 43), .pick (.t 40) (.t 42) (.c (.bool false)), none⟩),
 (25, ⟨(some 0), .mv (.t 43), none⟩)]
 [[], [], [0, 1], [2], [3], [3, 3], [4, 5, 5, 3], [3, 6], [7, 6], [8], [9, 8], [10, 8], [8, 11], [12, 8], [13], [13, 13], [14, 15, 15, 13], [13, 16], [17, 16], [18, 18], [18, 19], [20, 19], [21, 21], [22, 21], [21, 23], [24, 22, 0, 1, 2, 3, 4, 5, 6, 7, 8, 9, 10, 11, 12, 13, 14, 15, 16, 17, 18, 19, 20, 21, 22, 23, 24]] 0)
 (.ret)

def k76_1 : ACode :=
 .seq (.region [
 ⟨(some 12), .call 80 [], none⟩,
 ⟨(some 13), .bsl 1 1 [.int .i64 0] [(0, (.c (.int .i64 0)))], none⟩,
 ⟨(some 14), .call 81 [(.t 13)], none⟩,
 ⟨(some 15), .build [.int .i64 0, .lit (.slice none 0 0), .lit (.slice none 0 0), .int .i64 0, .int .i64 0, .int .u64 0] [(0, 1, (.c (.int .i64 13))), (1, 1, (.t 14))], none⟩,
 ⟨(some 16), .call 78 [(.t 12), (.c (.int .i64 0)), (.t 15)], none⟩,
 ⟨(some 11), .mv (.t 16), none⟩,
 ⟨(some 17), .ext (.t 11) 0, none⟩,
 ⟨(some 18), .ext (.t 11) 1, none⟩,
 ⟨(some 3), .new [.int .i64 0, .int .i64 0, .int .i64 0, .lit (.slice none 0 0), .lit (.slice none 0 0)], none⟩,
 ⟨(some 4), .new [.int .i64 0, .int .u64 0, .int .i64 0], none⟩,
 ⟨none, .st 5 (.t 3) (.t 17), none⟩,
 ⟨none, .st 3 (.t 4) (.t 18), none⟩])
 k76_0

def k76_2 : ACode :=
 .seq (.region [
 ⟨(some 6), .call 80 [], none⟩,
 ⟨(some 7), .bsl 1 2 [.int .u64 0] [(0, (.c (.int .u64 0))), (1, (.c (.int .u64 0)))], none⟩,
 ⟨(some 8), .call 82 [(.t 6), (.c (.int .i64 0)), (.t 7)], none⟩,
 ⟨(some 5), .mv (.t 8), none⟩,
 ⟨(some 9), .ext (.t 5) 0, none⟩,
 ⟨(some 10), .ext (.t 5) 1, none⟩,
 ⟨(some 1), .new [.int .i64 0, .int .i64 0, .int .i64 0, .lit (.slice none 0 0), .lit (.slice none 0 0)], none⟩,
 ⟨(some 2), .new [.int .i64 0, .int .u64 0, .int .i64 0], none⟩,
 ⟨none, .st 5 (.t 1) (.t 9), none⟩,
 ⟨none, .st 3 (.t 2) (.t 10), none⟩])
 k76_1

def c76 : ACode :=
 .seq (.region [
 ⟨(some 0), .mv (.c (.bool false)), none⟩])
 k76_2
theorem ok76 : fnOk Tryz.prog 76 c76 44 [.t 0] = true := by kernel_rfl

def k80_0 : ACode :=
 .seq (.region [
 ⟨(some 4), .call 148 [], none⟩,
 ⟨(some 5), .call 87 [(.t 4), (.c (.int .i64 64))], none⟩,
 ⟨(some 3), .mv (.t 5), none⟩,
 ⟨(some 6), .ext (.t 3) 0, none⟩,
 ⟨(some 7), .ext (.t 3) 1, none⟩,
 ⟨(some 1), .new [.int .i64 0, .int .i64 0, .int .i64 0, .lit (.slice none 0 0), .lit (.slice none 0 0)], none⟩,
 ⟨none, .st 5 (.t 1) (.t 6), none⟩,
 ⟨(some 2), .mv (.t 7), none⟩])
 (.seq (.region [
 ⟨(some 8), .ld (some 5) (.t 1), none⟩,
 ⟨none, .st 5 (.t 0) (.t 8), none⟩])
 (.ret))

def c80 : ACode :=
 .seq (.region [
 ⟨(some 0), .new [.int .i64 0, .int .i64 0, .int .i64 0, .lit (.slice none 0 0), .lit (.slice none 0 0)], none⟩])
 k80_0
theorem ok80 : fnOk Tryz.prog 80 c80 9 [.c 0 (some 5)] = true := by kernel_rfl

def k81_0 : ACode :=
 .seq (.region [
 ⟨(some 3), .mv (.t 0), none⟩,
 ⟨(some 4), .build [.lit (.slice none 0 0)] [(0, 1, (.t 3))], none⟩,
 ⟨none, .st 1 (.t 2) (.t 4), none⟩])
 (.ret)

def c81 : ACode :=
 .seq (.region [
 ⟨(some 2), .new [.lit (.slice none 0 0)], none⟩])
 k81_0
theorem ok81 : fnOk Tryz.prog 81 c81 5 [.c 2 (some 1)] = true := by kernel_rfl

end Go.Proofs.YtipigjckoejfpaaGreat.Ax
