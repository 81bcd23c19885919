/- Texts put behind one another: AxCLaw18. Conditions: none. -/
import Derived.Test.YtipigjckoejfpaaAxEnterZ
import Derived.Test.YtipigjckoejfpaaProg
import Derived.KernelRfl
set_option linter.unusedSimpArgs false
set_option linter.unusedVariables false
namespace Go.Proofs.Ytipigjckoejfpaa.Ax
open Go Go.Ax
set_option maxRecDepth 100000

def k3_0 : ACode :=
 .cond (.t 19)
 (.seq (.region [
 ⟨(some 8), .mv (.c (.bool false)), none⟩])
 (.ret))
 (.skip)

def k3_1 : ACode :=
 .cond (.t 31)
 (.seq (.region [
 ⟨(some 8), .mv (.c (.bool true)), none⟩])
 (.ret))
 (.skip)

def k3_2 : ACode :=
 .seq (.region [
 ⟨(some 42), .ld (some 5) (.t 10), none⟩,
 ⟨(some 43), .ld (some 5) (.t 4), none⟩,
 ⟨(some 44), .call 17 [(.t 42), (.t 43)], none⟩,
 ⟨(some 8), .mv (.t 44), none⟩])
 (.ret)

def k3_3 : ACode :=
 .cond (.t 63)
 (.seq (.region [
 ⟨(some 8), .mv (.c (.bool false)), none⟩])
 (.ret))
 (.skip)

def k3_4 : ACode :=
 .seq (.region [
 ⟨(some 67), .fld 0 (.t 15), none⟩,
 ⟨(some 68), .ld none (.t 67), none⟩,
 ⟨(some 69), .bin .eql (.t 68) (.c (.int .i64 6)), none⟩,
 ⟨(some 70), .mv (.t 69), none⟩,
 ⟨(some 71), .ld (some 5) (.t 14), (some (70, true))⟩,
 ⟨(some 72), .ld (some 5) (.t 10), (some (70, true))⟩,
 ⟨(some 73), .call 17 [(.t 71), (.t 72)], (some (70, true))⟩,
 ⟨(some 74), .pick (.t 70) (.t 73) (.c (.bool false)), none⟩,
 ⟨(some 8), .mv (.t 74), none⟩])
 (.ret)

def k3_5 : ACode :=
 .seq (.region [
 ⟨(some 84), .fld 1 (.t 15), none⟩,
 ⟨(some 85), .ld none (.t 84), none⟩,
 ⟨(some 86), .mv (.t 3), none⟩,
 ⟨(some 87), .bin .eql (.t 85) (.t 86), none⟩,
 ⟨(some 88), .mv (.t 87), none⟩,
 ⟨(some 89), .fld 0 (.t 17), (some (88, true))⟩,
 ⟨(some 90), .ld none (.t 89), (some (88, true))⟩,
 ⟨(some 91), .bin .eql (.t 90) (.c (.int .i64 14)), (some (88, true))⟩,
 ⟨(some 92), .pick (.t 88) (.t 91) (.c (.bool false)), none⟩,
 ⟨(some 93), .mv (.t 92), none⟩,
 ⟨(some 94), .ld (some 5) (.t 14), (some (93, true))⟩,
 ⟨(some 95), .ld (some 5) (.t 4), (some (93, true))⟩,
 ⟨(some 96), .call 17 [(.t 94), (.t 95)], (some (93, true))⟩,
 ⟨(some 97), .pick (.t 93) (.t 96) (.c (.bool false)), none⟩,
 ⟨(some 8), .mv (.t 97), none⟩])
 (.ret)

def k3_6 : ACode :=
 .seq (.drawn [
 (0, ⟨(some 76), .ld (some 5) (.t 14), none⟩),
 (2, ⟨(some 78), .mv (.t 2), none⟩),
 (3, ⟨(some 79), .call 13 [(.t 78)], none⟩),
 (1, ⟨(some 77), .mv (.t 1), none⟩),
 (4, ⟨(some 80), .build [.int .i64 0, .lit (.slice none 0 0), .lit (.slice none 0 0), .int .i64 0, .int .i64 0, .int .u64 0] [(0, 1, (.c (.int .i64 8))), (1, 1, (.t 79))], none⟩),
 (5, ⟨(some 81), .call 16 [(.t 76), (.t 77), (.t 80)], none⟩),
 (6, ⟨(some 75), .mv (.t 81), none⟩),
 (7, ⟨(some 82), .ext (.t 75) 0, none⟩),
 (9, ⟨(some 16), .born 0 (.new [.int .i64 0, .int .i64 0, .int .i64 0, .lit (.slice none 0 0), .lit (.slice none 0 0)]), none⟩),
 (10, ⟨(some 17), .born 1 (.new [.int .i64 0, .int .u64 0, .int .i64 0]), none⟩),
 (11, ⟨none, .st 5 (.t 16) (.t 82), none⟩),
 (8, ⟨(some 83), .ext (.t 75) 1, none⟩),
 (12, ⟨none, .st 3 (.t 17) (.t 83), none⟩)]
 [[], [], [], [2], [3], [0, 1, 4, 3], [5], [6], [6], [], [], [9, 7, 5, 0, 1, 2, 3, 4, 5, 6, 7, 9, 10], [10, 8, 11, 0, 1, 2, 3, 4, 5, 6, 7, 8, 9, 10, 11]] 2)
 k3_5

def k3_7 : ACode :=
 .seq (.seq (.region [
 ⟨(some 64), .fld 0 (.t 15), none⟩,
 ⟨(some 65), .ld none (.t 64), none⟩,
 ⟨(some 66), .bin .neq (.t 65) (.c (.int .i64 0)), none⟩])
 (.cond (.t 66)
 k3_4
 (.skip)))
 k3_6

def k3_8 : ACode :=
 .seq (.seq (.region [
 ⟨(some 61), .fld 0 (.t 13), none⟩,
 ⟨(some 62), .ld none (.t 61), none⟩,
 ⟨(some 63), .bin .neq (.t 62) (.c (.int .i64 13)), none⟩])
 k3_3)
 k3_7

def k3_9 : ACode :=
 .seq (.drawn [
 (0, ⟨(some 53), .ld (some 5) (.t 10), none⟩),
 (2, ⟨(some 55), .mv (.t 2), none⟩),
 (3, ⟨(some 56), .call 13 [(.t 55)], none⟩),
 (1, ⟨(some 54), .mv (.t 1), none⟩),
 (4, ⟨(some 57), .build [.int .i64 0, .lit (.slice none 0 0), .lit (.slice none 0 0), .int .i64 0, .int .i64 0, .int .u64 0] [(0, 1, (.c (.int .i64 8))), (1, 1, (.t 56))], none⟩),
 (5, ⟨(some 58), .call 16 [(.t 53), (.t 54), (.t 57)], none⟩),
 (6, ⟨(some 52), .mv (.t 58), none⟩),
 (7, ⟨(some 59), .ext (.t 52) 0, none⟩),
 (9, ⟨(some 14), .born 0 (.new [.int .i64 0, .int .i64 0, .int .i64 0, .lit (.slice none 0 0), .lit (.slice none 0 0)]), none⟩),
 (10, ⟨(some 15), .born 1 (.new [.int .i64 0, .int .u64 0, .int .i64 0]), none⟩),
 (11, ⟨none, .st 5 (.t 14) (.t 59), none⟩),
 (8, ⟨(some 60), .ext (.t 52) 1, none⟩),
 (12, ⟨none, .st 3 (.t 15) (.t 60), none⟩)]
 [[], [], [], [2], [3], [0, 1, 4, 3], [5], [6], [6], [], [], [9, 7, 5, 0, 1, 2, 3, 4, 5, 6, 7, 9, 10], [10, 8, 11, 0, 1, 2, 3, 4, 5, 6, 7, 8, 9, 10, 11]] 2)
 k3_8

def k3_10 : ACode :=
 .seq (.region [
 ⟨(some 46), .ld (some 5) (.t 10), none⟩,
 ⟨(some 47), .mv (.t 1), none⟩,
 ⟨(some 48), .ld (some 6) (.t 9), none⟩,
 ⟨(some 49), .call 16 [(.t 46), (.t 47), (.t 48)], none⟩,
 ⟨(some 45), .mv (.t 49), none⟩,
 ⟨(some 50), .ext (.t 45) 0, none⟩,
 ⟨(some 51), .ext (.t 45) 1, none⟩,
 ⟨(some 12), .new [.int .i64 0, .int .i64 0, .int .i64 0, .lit (.slice none 0 0), .lit (.slice none 0 0)], none⟩,
 ⟨(some 13), .new [.int .i64 0, .int .u64 0, .int .i64 0], none⟩,
 ⟨none, .st 5 (.t 12) (.t 50), none⟩,
 ⟨none, .st 3 (.t 13) (.t 51), none⟩])
 k3_9

def k3_11 : ACode :=
 .seq (.seq (.region [
 ⟨(some 39), .fld 0 (.t 11), none⟩,
 ⟨(some 40), .ld none (.t 39), none⟩,
 ⟨(some 41), .bin .neq (.t 40) (.c (.int .i64 0)), none⟩])
 (.cond (.t 41)
 k3_2
 (.skip)))
 k3_10

def k3_12 : ACode :=
 .seq (.region [
 ⟨(some 33), .ld (some 5) (.t 4), none⟩,
 ⟨(some 34), .mv (.t 1), none⟩,
 ⟨(some 35), .ld (some 6) (.t 9), none⟩,
 ⟨(some 36), .call 16 [(.t 33), (.t 34), (.t 35)], none⟩,
 ⟨(some 32), .mv (.t 36), none⟩,
 ⟨(some 37), .ext (.t 32) 0, none⟩,
 ⟨(some 38), .ext (.t 32) 1, none⟩,
 ⟨(some 10), .new [.int .i64 0, .int .i64 0, .int .i64 0, .lit (.slice none 0 0), .lit (.slice none 0 0)], none⟩,
 ⟨(some 11), .new [.int .i64 0, .int .u64 0, .int .i64 0], none⟩,
 ⟨none, .st 5 (.t 10) (.t 37), none⟩,
 ⟨none, .st 3 (.t 11) (.t 38), none⟩])
 k3_11

def k3_13 : ACode :=
 .seq (.seq (.region [
 ⟨(some 24), .ld (some 5) (.t 4), none⟩,
 ⟨(some 25), .ld (some 6) (.t 9), none⟩,
 ⟨(some 26), .call 14 [(.t 24), (.t 25)], none⟩,
 ⟨(some 27), .mv (.t 26), none⟩,
 ⟨(some 28), .ld (some 5) (.t 4), (some (27, false))⟩,
 ⟨(some 29), .call 15 [(.t 28)], (some (27, false))⟩,
 ⟨(some 30), .un .not (.t 29), (some (27, false))⟩,
 ⟨(some 31), .pick (.t 27) (.c (.bool true)) (.t 30), none⟩])
 k3_1)
 k3_12

def k3_14 : ACode :=
 .seq (.region [
 ⟨(some 20), .mv (.t 2), none⟩,
 ⟨(some 21), .call 13 [(.t 20)], none⟩,
 ⟨(some 22), .mv (.t 3), none⟩,
 ⟨(some 23), .build [.int .i64 0, .lit (.slice none 0 0), .lit (.slice none 0 0), .int .i64 0, .int .i64 0, .int .u64 0] [(0, 1, (.c (.int .i64 7))), (1, 1, (.t 21)), (5, 1, (.t 22))], none⟩,
 ⟨(some 9), .new [.int .i64 0, .lit (.slice none 0 0), .lit (.slice none 0 0), .int .i64 0, .int .i64 0, .int .u64 0], none⟩,
 ⟨none, .st 6 (.t 9) (.t 23), none⟩])
 k3_13

def k3_15 : ACode :=
 .seq (.seq (.region [
 ⟨(some 18), .call 12 [], none⟩,
 ⟨(some 19), .un .not (.t 18), none⟩])
 k3_0)
 k3_14

def c3 : ACode :=
 .seq (.region [
 ⟨(some 4), .box (.t 0), none⟩,
 ⟨(some 8), .mv (.c (.bool false)), none⟩])
 k3_15
theorem ok3 : fnOk Try.prog 3 c3 98 [.t 8] = true := by kernel_rfl

def k4_0 : ACode :=
 .cond (.t 25)
 (.seq (.region [
 ⟨(some 14), .mv (.c (.bool false)), none⟩])
 (.ret))
 (.skip)

def k4_1 : ACode :=
 .cond (.t 58)
 (.seq (.region [
 ⟨(some 14), .mv (.c (.bool true)), none⟩])
 (.ret))
 (.skip)

def k4_2 : ACode :=
 .seq (.region [
 ⟨(some 69), .ld (some 5) (.t 17), none⟩,
 ⟨(some 70), .ld (some 5) (.t 7), none⟩,
 ⟨(some 71), .call 17 [(.t 69), (.t 70)], none⟩,
 ⟨(some 14), .mv (.t 71), none⟩])
 (.ret)

def k4_3 : ACode :=
 .seq (.region [
 ⟨(some 82), .ld (some 5) (.t 19), none⟩,
 ⟨(some 83), .ld (some 5) (.t 17), none⟩,
 ⟨(some 84), .call 17 [(.t 82), (.t 83)], none⟩,
 ⟨(some 14), .mv (.t 84), none⟩])
 (.ret)

def k4_4 : ACode :=
 .cond (.t 139)
 (.seq (.region [
 ⟨(some 14), .mv (.c (.bool false)), none⟩])
 (.ret))
 (.skip)

def k4_5 : ACode :=
 .seq (.seq (.drawn [
 (0, ⟨(some 116), .mv (.t 23), none⟩),
 (1, ⟨(some 117), .bin .lss (.t 116) (.c (.int .i64 0)), none⟩),
 (2, ⟨(some 118), .mv (.t 117), none⟩),
 (4, ⟨(some 120), .fld 3 (.t 17), (some (118, false))⟩),
 (5, ⟨(some 121), .ld none (.t 120), (some (118, false))⟩),
 (3, ⟨(some 119), .mv (.t 23), (some (118, false))⟩),
 (6, ⟨(some 122), .len false (.t 121), (some (118, false))⟩),
 (7, ⟨(some 123), .bin .geq (.t 119) (.t 122), (some (118, false))⟩),
 (8, ⟨(some 124), .pick (.t 118) (.c (.bool true)) (.t 123), none⟩),
 (9, ⟨(some 125), .mv (.t 124), none⟩),
 (10, ⟨(some 126), .fld 3 (.t 19), (some (125, false))⟩),
 (11, ⟨(some 127), .ld none (.t 126), (some (125, false))⟩),
 (12, ⟨(some 128), .mv (.t 22), (some (125, false))⟩),
 (13, ⟨(some 129), .ixs 5 (.t 127) (.t 128), (some (125, false))⟩),
 (14, ⟨(some 130), .fld 0 (.t 129), (some (125, false))⟩),
 (15, ⟨(some 131), .ld (some 4) (.t 130), (some (125, false))⟩),
 (16, ⟨(some 132), .fld 3 (.t 17), (some (125, false))⟩),
 (17, ⟨(some 133), .ld none (.t 132), (some (125, false))⟩),
 (18, ⟨(some 134), .mv (.t 23), (some (125, false))⟩),
 (19, ⟨(some 135), .ixs 5 (.t 133) (.t 134), (some (125, false))⟩),
 (20, ⟨(some 136), .fld 0 (.t 135), (some (125, false))⟩),
 (21, ⟨(some 137), .ld (some 4) (.t 136), (some (125, false))⟩),
 (22, ⟨(some 138), .eqs true [0, 0, 0, 0] (.t 131) (.t 137), (some (125, false))⟩),
 (23, ⟨(some 139), .pick (.t 125) (.c (.bool true)) (.t 138), none⟩)]
 [[], [0], [1], [2], [2], [4, 2], [5, 2], [3, 6, 2], [2, 7], [8, 2], [9], [10, 9], [9], [11, 12, 9], [13, 9], [14, 9], [9], [16, 9], [9], [17, 18, 9], [19, 9], [20, 9], [15, 21, 9], [9, 22]] 0)
 k4_4)
 (.region [
 ⟨(some 140), .mv (.t 21), none⟩,
 ⟨(some 141), .bin .add (.t 140) (.c (.int .i64 1)), none⟩,
 ⟨(some 21), .mv (.t 141), none⟩])

def k4_6 : ACode :=
 .seq (.region [
 ⟨(some 110), .fld 3 (.t 19), none⟩,
 ⟨(some 111), .ld none (.t 110), none⟩,
 ⟨(some 112), .mv (.t 22), none⟩,
 ⟨(some 113), .ixs 5 (.t 111) (.t 112), none⟩,
 ⟨(some 114), .fld 4 (.t 113), none⟩,
 ⟨(some 115), .ld none (.t 114), none⟩,
 ⟨(some 23), .mv (.t 115), none⟩])
 k4_5

def k4_7 : ACode :=
 .seq (.block 1 (
 .seq (.seq (.drawn [
 (0, ⟨(some 99), .fld 3 (.t 19), none⟩),
 (1, ⟨(some 100), .ld none (.t 99), none⟩),
 (2, ⟨(some 101), .mv (.t 22), none⟩),
 (3, ⟨(some 102), .ixs 5 (.t 100) (.t 101), none⟩),
 (4, ⟨(some 103), .ld (some 5) (.t 102), none⟩),
 (5, ⟨(some 104), .fld 3 (.t 17), none⟩),
 (6, ⟨(some 105), .ld none (.t 104), none⟩),
 (7, ⟨(some 106), .mv (.t 22), none⟩),
 (8, ⟨(some 107), .ixs 5 (.t 105) (.t 106), none⟩),
 (9, ⟨(some 108), .ld (some 5) (.t 107), none⟩),
 (10, ⟨(some 109), .eqs false [0, 0, 0, 0, 0] (.t 103) (.t 108), none⟩)]
 [[], [0], [], [1, 2], [3], [], [5], [], [6, 7], [8], [4, 9]] 0)
 (.cond (.t 109)
 (.exit 1)
 (.skip)))
 k4_6))
 (.region [
 ⟨(some 97), .mv (.t 22), none⟩,
 ⟨(some 98), .bin .add (.t 97) (.c (.int .i64 1)), none⟩,
 ⟨(some 22), .mv (.t 98), none⟩])

def b4_8 : ACode :=
 .seq (.seq (.region [
 ⟨(some 85), .mv (.t 22), none⟩,
 ⟨(some 86), .fld 3 (.t 19), none⟩,
 ⟨(some 87), .ld none (.t 86), none⟩,
 ⟨(some 88), .len false (.t 87), none⟩,
 ⟨(some 89), .bin .lss (.t 85) (.t 88), none⟩,
 ⟨(some 90), .mv (.t 89), none⟩,
 ⟨(some 91), .mv (.t 22), (some (90, true))⟩,
 ⟨(some 92), .fld 3 (.t 17), (some (90, true))⟩,
 ⟨(some 93), .ld none (.t 92), (some (90, true))⟩,
 ⟨(some 94), .len false (.t 93), (some (90, true))⟩,
 ⟨(some 95), .bin .lss (.t 91) (.t 94), (some (90, true))⟩,
 ⟨(some 96), .pick (.t 90) (.t 95) (.c (.bool false)), none⟩])
 (.cond (.t 96)
 (.skip)
 (.exit 0)))
 k4_7

def k4_9 : ACode :=
 .seq (.region [
 ⟨(some 142), .mv (.t 21), none⟩,
 ⟨(some 143), .bin .leq (.t 142) (.c (.int .i64 1)), none⟩,
 ⟨(some 144), .mv (.t 143), none⟩,
 ⟨(some 145), .ld (some 5) (.t 19), (some (144, true))⟩,
 ⟨(some 146), .call 15 [(.t 145)], (some (144, true))⟩,
 ⟨(some 147), .pick (.t 144) (.t 146) (.c (.bool false)), none⟩,
 ⟨(some 14), .mv (.t 147), none⟩])
 (.ret)

def k4_10 : ACode :=
 .seq (.seq (.region [
 ⟨(some 22), .mv (.c (.int .i64 0)), none⟩])
 (.block 0 (
 .loop b4_8)))
 k4_9

def k4_11 : ACode :=
 .seq (.seq (.region [
 ⟨(some 79), .fld 0 (.t 20), none⟩,
 ⟨(some 80), .ld none (.t 79), none⟩,
 ⟨(some 81), .bin .neq (.t 80) (.c (.int .i64 0)), none⟩])
 (.cond (.t 81)
 k4_3
 (.skip)))
 (.seq (.region [
 ⟨(some 21), .mv (.c (.int .i64 0)), none⟩])
 k4_10)

def k4_12 : ACode :=
 .seq (.region [
 ⟨(some 73), .ld (some 5) (.t 17), none⟩,
 ⟨(some 74), .mv (.t 2), none⟩,
 ⟨(some 75), .ld (some 6) (.t 16), none⟩,
 ⟨(some 76), .call 16 [(.t 73), (.t 74), (.t 75)], none⟩,
 ⟨(some 72), .mv (.t 76), none⟩,
 ⟨(some 77), .ext (.t 72) 0, none⟩,
 ⟨(some 78), .ext (.t 72) 1, none⟩,
 ⟨(some 19), .new [.int .i64 0, .int .i64 0, .int .i64 0, .lit (.slice none 0 0), .lit (.slice none 0 0)], none⟩,
 ⟨(some 20), .new [.int .i64 0, .int .u64 0, .int .i64 0], none⟩,
 ⟨none, .st 5 (.t 19) (.t 77), none⟩,
 ⟨none, .st 3 (.t 20) (.t 78), none⟩])
 k4_11

def k4_13 : ACode :=
 .seq (.seq (.region [
 ⟨(some 66), .fld 0 (.t 18), none⟩,
 ⟨(some 67), .ld none (.t 66), none⟩,
 ⟨(some 68), .bin .neq (.t 67) (.c (.int .i64 0)), none⟩])
 (.cond (.t 68)
 k4_2
 (.skip)))
 k4_12

def k4_14 : ACode :=
 .seq (.region [
 ⟨(some 60), .ld (some 5) (.t 7), none⟩,
 ⟨(some 61), .mv (.t 1), none⟩,
 ⟨(some 62), .ld (some 6) (.t 15), none⟩,
 ⟨(some 63), .call 16 [(.t 60), (.t 61), (.t 62)], none⟩,
 ⟨(some 59), .mv (.t 63), none⟩,
 ⟨(some 64), .ext (.t 59) 0, none⟩,
 ⟨(some 65), .ext (.t 59) 1, none⟩,
 ⟨(some 17), .new [.int .i64 0, .int .i64 0, .int .i64 0, .lit (.slice none 0 0), .lit (.slice none 0 0)], none⟩,
 ⟨(some 18), .new [.int .i64 0, .int .u64 0, .int .i64 0], none⟩,
 ⟨none, .st 5 (.t 17) (.t 64), none⟩,
 ⟨none, .st 3 (.t 18) (.t 65), none⟩])
 k4_13

def k4_15 : ACode :=
 .seq (.seq (.region [
 ⟨(some 36), .ld (some 5) (.t 7), none⟩,
 ⟨(some 37), .ld (some 6) (.t 15), none⟩,
 ⟨(some 38), .call 14 [(.t 36), (.t 37)], none⟩,
 ⟨(some 39), .mv (.t 38), none⟩,
 ⟨(some 40), .ld (some 5) (.t 7), (some (39, false))⟩,
 ⟨(some 41), .ld (some 6) (.t 16), (some (39, false))⟩,
 ⟨(some 42), .call 14 [(.t 40), (.t 41)], (some (39, false))⟩,
 ⟨(some 43), .pick (.t 39) (.c (.bool true)) (.t 42), none⟩,
 ⟨(some 44), .mv (.t 43), none⟩,
 ⟨(some 45), .ld (some 5) (.t 7), (some (44, false))⟩,
 ⟨(some 46), .call 15 [(.t 45)], (some (44, false))⟩,
 ⟨(some 47), .un .not (.t 46), (some (44, false))⟩,
 ⟨(some 48), .pick (.t 44) (.c (.bool true)) (.t 47), none⟩,
 ⟨(some 49), .mv (.t 48), none⟩,
 ⟨(some 50), .mv (.t 4), (some (49, false))⟩,
 ⟨(some 51), .len false (.t 50), (some (49, false))⟩,
 ⟨(some 52), .bin .eql (.t 51) (.c (.int .i64 0)), (some (49, false))⟩,
 ⟨(some 53), .pick (.t 49) (.c (.bool true)) (.t 52), none⟩,
 ⟨(some 54), .mv (.t 53), none⟩,
 ⟨(some 55), .mv (.t 6), (some (54, false))⟩,
 ⟨(some 56), .len false (.t 55), (some (54, false))⟩,
 ⟨(some 57), .bin .eql (.t 56) (.c (.int .i64 0)), (some (54, false))⟩,
 ⟨(some 58), .pick (.t 54) (.c (.bool true)) (.t 57), none⟩])
 k4_1)
 k4_14

def k4_16 : ACode :=
 .seq (.region [
 ⟨(some 26), .mv (.t 3), none⟩,
 ⟨(some 27), .call 13 [(.t 26)], none⟩,
 ⟨(some 28), .mv (.t 4), none⟩,
 ⟨(some 29), .call 13 [(.t 28)], none⟩,
 ⟨(some 30), .build [.int .i64 0, .lit (.slice none 0 0), .lit (.slice none 0 0), .int .i64 0, .int .i64 0, .int .u64 0] [(0, 1, (.c (.int .i64 7))), (1, 1, (.t 27)), (2, 1, (.t 29)), (5, 1, (.c (.int .u64 1)))], none⟩,
 ⟨(some 31), .mv (.t 5), none⟩,
 ⟨(some 32), .call 13 [(.t 31)], none⟩,
 ⟨(some 33), .mv (.t 6), none⟩,
 ⟨(some 34), .call 13 [(.t 33)], none⟩,
 ⟨(some 35), .build [.int .i64 0, .lit (.slice none 0 0), .lit (.slice none 0 0), .int .i64 0, .int .i64 0, .int .u64 0] [(0, 1, (.c (.int .i64 8))), (1, 1, (.t 32)), (2, 1, (.t 34))], none⟩,
 ⟨(some 15), .new [.int .i64 0, .lit (.slice none 0 0), .lit (.slice none 0 0), .int .i64 0, .int .i64 0, .int .u64 0], none⟩,
 ⟨(some 16), .new [.int .i64 0, .lit (.slice none 0 0), .lit (.slice none 0 0), .int .i64 0, .int .i64 0, .int .u64 0], none⟩,
 ⟨none, .st 6 (.t 15) (.t 30), none⟩,
 ⟨none, .st 6 (.t 16) (.t 35), none⟩])
 k4_15

def k4_17 : ACode :=
 .seq (.seq (.region [
 ⟨(some 24), .call 12 [], none⟩,
 ⟨(some 25), .un .not (.t 24), none⟩])
 k4_0)
 k4_16

def c4 : ACode :=
 .seq (.region [
 ⟨(some 7), .box (.t 0), none⟩,
 ⟨(some 14), .mv (.c (.bool false)), none⟩])
 k4_17
theorem ok4 : fnOk Try.prog 4 c4 148 [.t 14] = true := by kernel_rfl

def k11_0 : ACode :=
 .cond (.t 28)
 (.seq (.region [
 ⟨(some 0), .mv (.c (.bool false)), none⟩])
 (.ret))
 (.skip)

def k11_1 : ACode :=
 .seq (.region [
 ⟨(some 167), .ld (some 3) (.t 4), none⟩,
 ⟨(some 168), .build [.int .i64 0, .int .u64 0, .int .i64 0] [], none⟩,
 ⟨(some 169), .eqs false [0, 0, 0] (.t 167) (.t 168), none⟩,
 ⟨(some 170), .mv (.t 169), none⟩,
 ⟨(some 171), .fld 0 (.t 6), (some (170, true))⟩,
 ⟨(some 172), .ld none (.t 171), (some (170, true))⟩,
 ⟨(some 173), .bin .eql (.t 172) (.c (.int .i64 13)), (some (170, true))⟩,
 ⟨(some 174), .pick (.t 170) (.t 173) (.c (.bool false)), none⟩,
 ⟨(some 175), .mv (.t 174), none⟩,
 ⟨(some 176), .fld 0 (.t 8), (some (175, true))⟩,
 ⟨(some 177), .ld none (.t 176), (some (175, true))⟩,
 ⟨(some 178), .bin .eql (.t 177) (.c (.int .i64 6)), (some (175, true))⟩,
 ⟨(some 179), .pick (.t 175) (.t 178) (.c (.bool false)), none⟩,
 ⟨(some 180), .mv (.t 179), none⟩,
 ⟨(some 181), .fld 0 (.t 10), (some (180, true))⟩,
 ⟨(some 182), .ld none (.t 181), (some (180, true))⟩,
 ⟨(some 183), .bin .eql (.t 182) (.c (.int .i64 6)), (some (180, true))⟩,
 ⟨(some 184), .pick (.t 180) (.t 183) (.c (.bool false)), none⟩,
 ⟨(some 185), .mv (.t 184), none⟩,
 ⟨(some 186), .fld 0 (.t 12), (some (185, true))⟩,
 ⟨(some 187), .ld none (.t 186), (some (185, true))⟩,
 ⟨(some 188), .bin .eql (.t 187) (.c (.int .i64 7)), (some (185, true))⟩,
 ⟨(some 189), .pick (.t 185) (.t 188) (.c (.bool false)), none⟩,
 ⟨(some 190), .mv (.t 189), none⟩,
 ⟨(some 191), .fld 0 (.t 14), (some (190, true))⟩,
 ⟨(some 192), .ld none (.t 191), (some (190, true))⟩,
 ⟨(some 193), .bin .eql (.t 192) (.c (.int .i64 7)), (some (190, true))⟩,
 ⟨(some 194), .pick (.t 190) (.t 193) (.c (.bool false)), none⟩,
 ⟨(some 195), .mv (.t 194), none⟩,
 ⟨(some 196), .fld 0 (.t 16), (some (195, true))⟩,
 ⟨(some 197), .ld none (.t 196), (some (195, true))⟩,
 ⟨(some 198), .bin .eql (.t 197) (.c (.int .i64 14)), (some (195, true))⟩,
 ⟨(some 199), .pick (.t 195) (.t 198) (.c (.bool false)), none⟩,
 ⟨(some 200), .mv (.t 199), none⟩,
 ⟨(some 201), .fld 0 (.t 18), (some (200, true))⟩,
 ⟨(some 202), .ld none (.t 201), (some (200, true))⟩,
 ⟨(some 203), .bin .eql (.t 202) (.c (.int .i64 6)), (some (200, true))⟩,
 ⟨(some 204), .pick (.t 200) (.t 203) (.c (.bool false)), none⟩,
 ⟨(some 205), .mv (.t 204), none⟩,
 ⟨(some 206), .ld (some 3) (.t 20), (some (205, true))⟩,
 ⟨(some 207), .build [.int .i64 0, .int .u64 0, .int .i64 0] [(1, 1, (.c (.int .u64 7))), (2, 1, (.c (.int .i64 9)))], (some (205, true))⟩,
 ⟨(some 208), .eqs false [0, 0, 0] (.t 206) (.t 207), (some (205, true))⟩,
 ⟨(some 209), .pick (.t 205) (.t 208) (.c (.bool false)), none⟩,
 ⟨(some 210), .mv (.t 209), none⟩,
 ⟨(some 211), .fld 3 (.t 19), (some (210, true))⟩,
 ⟨(some 212), .ld none (.t 211), (some (210, true))⟩,
 ⟨(some 213), .len false (.t 212), (some (210, true))⟩,
 ⟨(some 214), .bin .eql (.t 213) (.c (.int .i64 32)), (some (210, true))⟩,
 ⟨(some 215), .pick (.t 210) (.t 214) (.c (.bool false)), none⟩,
 ⟨(some 216), .mv (.t 215), none⟩,
 ⟨(some 217), .fld 3 (.t 19), (some (216, true))⟩,
 ⟨(some 218), .ld none (.t 217), (some (216, true))⟩,
 ⟨(some 219), .ixs 5 (.t 218) (.c (.int .i64 13)), (some (216, true))⟩,
 ⟨(some 220), .ld (some 5) (.t 219), (some (216, true))⟩,
 ⟨(some 221), .build [.int .i64 0, .int .i64 0, .int .i64 0, .int .i64 0] [(0, 1, (.c (.int .i64 3))), (1, 1, (.c (.int .i64 1))), (2, 1, (.c (.int .i64 1)))], (some (216, true))⟩,
 ⟨(some 222), .build [.int .i64 0, .int .i64 0, .int .i64 0, .int .i64 0, .int .i64 0] [(0, 4, (.t 221)), (4, 1, (.c (.int .i64 3)))], (some (216, true))⟩,
 ⟨(some 223), .eqs false [0, 0, 0, 0, 0] (.t 220) (.t 222), (some (216, true))⟩,
 ⟨(some 224), .pick (.t 216) (.t 223) (.c (.bool false)), none⟩,
 ⟨(some 225), .mv (.t 224), none⟩,
 ⟨(some 226), .fld 4 (.t 19), (some (225, true))⟩,
 ⟨(some 227), .ld none (.t 226), (some (225, true))⟩,
 ⟨(some 228), .len false (.t 227), (some (225, true))⟩,
 ⟨(some 229), .bin .eql (.t 228) (.c (.int .i64 16)), (some (225, true))⟩,
 ⟨(some 230), .pick (.t 225) (.t 229) (.c (.bool false)), none⟩,
 ⟨(some 231), .mv (.t 230), none⟩,
 ⟨(some 232), .fld 4 (.t 19), (some (231, true))⟩,
 ⟨(some 233), .ld none (.t 232), (some (231, true))⟩,
 ⟨(some 234), .ixs 13 (.t 233) (.c (.int .i64 1)), (some (231, true))⟩,
 ⟨(some 235), .ld (some 13) (.t 234), (some (231, true))⟩,
 ⟨(some 236), .build [.int .i64 0, .int .i64 0, .int .i64 0, .int .i64 0, .int .i64 0, .int .i64 0, .int .i64 0, .bool false, .int .u64 0, .int .u64 0, .int .u64 0, .int .u64 0, .int .u64 0] [(0, 1, (.c (.int .i64 3)))], (some (231, true))⟩,
 ⟨(some 237), .eqs false [0, 0, 0, 0, 0, 0, 0, 1, 0, 0, 0, 0, 0] (.t 235) (.t 236), (some (231, true))⟩,
 ⟨(some 238), .pick (.t 231) (.t 237) (.c (.bool false)), none⟩,
 ⟨(some 239), .mv (.t 238), none⟩,
 ⟨(some 240), .fld 0 (.t 22), (some (239, true))⟩,
 ⟨(some 241), .ld none (.t 240), (some (239, true))⟩,
 ⟨(some 242), .bin .eql (.t 241) (.c (.int .i64 5)), (some (239, true))⟩,
 ⟨(some 243), .pick (.t 239) (.t 242) (.c (.bool false)), none⟩,
 ⟨(some 244), .mv (.t 243), none⟩,
 ⟨(some 245), .ld (some 3) (.t 24), (some (244, true))⟩,
 ⟨(some 246), .build [.int .i64 0, .int .u64 0, .int .i64 0] [(1, 1, (.c (.int .u64 7))), (2, 1, (.c (.int .i64 9)))], (some (244, true))⟩,
 ⟨(some 247), .eqs false [0, 0, 0] (.t 245) (.t 246), (some (244, true))⟩,
 ⟨(some 248), .pick (.t 244) (.t 247) (.c (.bool false)), none⟩,
 ⟨(some 249), .mv (.t 248), none⟩,
 ⟨(some 250), .ld (some 5) (.t 23), (some (249, true))⟩,
 ⟨(some 251), .ld (some 5) (.t 1), (some (249, true))⟩,
 ⟨(some 252), .call 17 [(.t 250), (.t 251)], (some (249, true))⟩,
 ⟨(some 253), .pick (.t 249) (.t 252) (.c (.bool false)), none⟩,
 ⟨(some 254), .mv (.t 253), none⟩,
 ⟨(some 255), .fld 0 (.t 26), (some (254, true))⟩,
 ⟨(some 256), .ld none (.t 255), (some (254, true))⟩,
 ⟨(some 257), .bin .eql (.t 256) (.c (.int .i64 4)), (some (254, true))⟩,
 ⟨(some 258), .pick (.t 254) (.t 257) (.c (.bool false)), none⟩,
 ⟨(some 0), .mv (.t 258), none⟩])
 (.ret)

def k11_2 : ACode :=
 .seq (.drawn [
 (0, ⟨(some 158), .ld (some 5) (.t 1), none⟩),
 (1, ⟨(some 159), .born 0 (.bsl 1 1 [.int .i64 0] [(0, (.c (.int .i64 1)))]), none⟩),
 (2, ⟨(some 160), .call 13 [(.t 159)], none⟩),
 (3, ⟨(some 161), .born 1 (.bsl 1 1 [.int .i64 0] [(0, (.c (.int .i64 6)))]), none⟩),
 (4, ⟨(some 162), .call 13 [(.t 161)], none⟩),
 (5, ⟨(some 163), .build [.int .i64 0, .lit (.slice none 0 0), .lit (.slice none 0 0), .int .i64 0, .int .i64 0, .int .u64 0] [(0, 1, (.c (.int .i64 7))), (1, 1, (.t 160)), (2, 1, (.t 162))], none⟩),
 (6, ⟨(some 164), .call 16 [(.t 158), (.c (.int .i64 0)), (.t 163)], none⟩),
 (7, ⟨(some 157), .mv (.t 164), none⟩),
 (8, ⟨(some 165), .ext (.t 157) 0, none⟩),
 (10, ⟨(some 25), .born 2 (.new [.int .i64 0, .int .i64 0, .int .i64 0, .lit (.slice none 0 0), .lit (.slice none 0 0)]), none⟩),
 (11, ⟨(some 26), .born 3 (.new [.int .i64 0, .int .u64 0, .int .i64 0]), none⟩),
 (12, ⟨none, .st 5 (.t 25) (.t 165), none⟩),
 (9, ⟨(some 166), .ext (.t 157) 1, none⟩),
 (13, ⟨none, .st 3 (.t 26) (.t 166), none⟩)]
 [[], [], [1], [], [3, 2], [2, 4], [0, 5, 4], [6], [7], [7], [], [], [10, 8, 6, 0, 1, 2, 3, 4, 5, 6, 7, 8, 10, 11], [11, 9, 12, 0, 1, 2, 3, 4, 5, 6, 7, 8, 9, 10, 11, 12]] 4)
 k11_1

def k11_3 : ACode :=
 .seq (.drawn [
 (0, ⟨(some 150), .ld (some 5) (.t 3), none⟩),
 (1, ⟨(some 151), .born 0 (.bsl 1 1 [.int .i64 0] [(0, (.c (.int .i64 1)))]), none⟩),
 (2, ⟨(some 152), .call 13 [(.t 151)], none⟩),
 (3, ⟨(some 153), .build [.int .i64 0, .lit (.slice none 0 0), .lit (.slice none 0 0), .int .i64 0, .int .i64 0, .int .u64 0] [(0, 1, (.c (.int .i64 8))), (1, 1, (.t 152))], none⟩),
 (4, ⟨(some 154), .call 16 [(.t 150), (.c (.int .i64 1)), (.t 153)], none⟩),
 (5, ⟨(some 149), .mv (.t 154), none⟩),
 (6, ⟨(some 155), .ext (.t 149) 0, none⟩),
 (8, ⟨(some 23), .born 1 (.new [.int .i64 0, .int .i64 0, .int .i64 0, .lit (.slice none 0 0), .lit (.slice none 0 0)]), none⟩),
 (9, ⟨(some 24), .born 2 (.new [.int .i64 0, .int .u64 0, .int .i64 0]), none⟩),
 (10, ⟨none, .st 5 (.t 23) (.t 155), none⟩),
 (7, ⟨(some 156), .ext (.t 149) 1, none⟩),
 (11, ⟨none, .st 3 (.t 24) (.t 156), none⟩)]
 [[], [], [1], [2], [0, 3, 2], [4], [5], [5], [], [], [8, 6, 4, 0, 1, 2, 3, 4, 5, 6, 8, 9], [9, 7, 10, 0, 1, 2, 3, 4, 5, 6, 7, 8, 9, 10]] 3)
 k11_2

def k11_4 : ACode :=
 .seq (.drawn [
 (0, ⟨(some 140), .ld (some 5) (.t 3), none⟩),
 (1, ⟨(some 141), .born 0 (.bsl 1 1 [.int .i64 0] [(0, (.c (.int .i64 1)))]), none⟩),
 (2, ⟨(some 142), .call 13 [(.t 141)], none⟩),
 (3, ⟨(some 143), .born 1 (.bsl 1 1 [.int .i64 0] [(0, (.c (.int .i64 1)))]), none⟩),
 (4, ⟨(some 144), .call 13 [(.t 143)], none⟩),
 (5, ⟨(some 145), .build [.int .i64 0, .lit (.slice none 0 0), .lit (.slice none 0 0), .int .i64 0, .int .i64 0, .int .u64 0] [(0, 1, (.c (.int .i64 8))), (1, 1, (.t 142)), (2, 1, (.t 144))], none⟩),
 (6, ⟨(some 146), .call 16 [(.t 140), (.c (.int .i64 1)), (.t 145)], none⟩),
 (7, ⟨(some 139), .mv (.t 146), none⟩),
 (8, ⟨(some 147), .ext (.t 139) 0, none⟩),
 (10, ⟨(some 21), .born 2 (.new [.int .i64 0, .int .i64 0, .int .i64 0, .lit (.slice none 0 0), .lit (.slice none 0 0)]), none⟩),
 (11, ⟨(some 22), .born 3 (.new [.int .i64 0, .int .u64 0, .int .i64 0]), none⟩),
 (12, ⟨none, .st 5 (.t 21) (.t 147), none⟩),
 (9, ⟨(some 148), .ext (.t 139) 1, none⟩),
 (13, ⟨none, .st 3 (.t 22) (.t 148), none⟩)]
 [[], [], [1], [], [3, 2], [2, 4], [0, 5, 4], [6], [7], [7], [], [], [10, 8, 6, 0, 1, 2, 3, 4, 5, 6, 7, 8, 10, 11], [11, 9, 12, 0, 1, 2, 3, 4, 5, 6, 7, 8, 9, 10, 11, 12]] 4)
 k11_3

def k11_5 : ACode :=
 .seq (.drawn [
 (0, ⟨(some 130), .ld (some 5) (.t 3), none⟩),
 (1, ⟨(some 131), .born 0 (.bsl 1 1 [.int .i64 0] [(0, (.c (.int .i64 1)))]), none⟩),
 (2, ⟨(some 132), .call 13 [(.t 131)], none⟩),
 (3, ⟨(some 133), .born 1 (.bsl 1 1 [.int .i64 0] [(0, (.c (.int .i64 5)))]), none⟩),
 (4, ⟨(some 134), .call 13 [(.t 133)], none⟩),
 (5, ⟨(some 135), .build [.int .i64 0, .lit (.slice none 0 0), .lit (.slice none 0 0), .int .i64 0, .int .i64 0, .int .u64 0] [(0, 1, (.c (.int .i64 8))), (1, 1, (.t 132)), (2, 1, (.t 134))], none⟩),
 (6, ⟨(some 136), .call 16 [(.t 130), (.c (.int .i64 1)), (.t 135)], none⟩),
 (7, ⟨(some 129), .mv (.t 136), none⟩),
 (8, ⟨(some 137), .ext (.t 129) 0, none⟩),
 (10, ⟨(some 19), .born 2 (.new [.int .i64 0, .int .i64 0, .int .i64 0, .lit (.slice none 0 0), .lit (.slice none 0 0)]), none⟩),
 (11, ⟨(some 20), .born 3 (.new [.int .i64 0, .int .u64 0, .int .i64 0]), none⟩),
 (12, ⟨none, .st 5 (.t 19) (.t 137), none⟩),
 (9, ⟨(some 138), .ext (.t 129) 1, none⟩),
 (13, ⟨none, .st 3 (.t 20) (.t 138), none⟩)]
 [[], [], [1], [], [3, 2], [2, 4], [0, 5, 4], [6], [7], [7], [], [], [10, 8, 6, 0, 1, 2, 3, 4, 5, 6, 7, 8, 10, 11], [11, 9, 12, 0, 1, 2, 3, 4, 5, 6, 7, 8, 9, 10, 11, 12]] 4)
 k11_4

def k11_6 : ACode :=
 .seq (.drawn [
 (0, ⟨(some 122), .ld (some 5) (.t 3), none⟩),
 (1, ⟨(some 123), .born 0 (.bsl 1 1 [.int .i64 0] [(0, (.c (.int .i64 4)))]), none⟩),
 (2, ⟨(some 124), .call 13 [(.t 123)], none⟩),
 (3, ⟨(some 125), .build [.int .i64 0, .lit (.slice none 0 0), .lit (.slice none 0 0), .int .i64 0, .int .i64 0, .int .u64 0] [(0, 1, (.c (.int .i64 8))), (1, 1, (.t 124))], none⟩),
 (4, ⟨(some 126), .call 16 [(.t 122), (.c (.int .i64 0)), (.t 125)], none⟩),
 (5, ⟨(some 121), .mv (.t 126), none⟩),
 (6, ⟨(some 127), .ext (.t 121) 0, none⟩),
 (8, ⟨(some 17), .born 1 (.new [.int .i64 0, .int .i64 0, .int .i64 0, .lit (.slice none 0 0), .lit (.slice none 0 0)]), none⟩),
 (9, ⟨(some 18), .born 2 (.new [.int .i64 0, .int .u64 0, .int .i64 0]), none⟩),
 (10, ⟨none, .st 5 (.t 17) (.t 127), none⟩),
 (7, ⟨(some 128), .ext (.t 121) 1, none⟩),
 (11, ⟨none, .st 3 (.t 18) (.t 128), none⟩)]
 [[], [], [1], [2], [0, 3, 2], [4], [5], [5], [], [], [8, 6, 4, 0, 1, 2, 3, 4, 5, 6, 8, 9], [9, 7, 10, 0, 1, 2, 3, 4, 5, 6, 7, 8, 9, 10]] 3)
 k11_5

def k11_7 : ACode :=
 .seq (.drawn [
 (0, ⟨(some 114), .ld (some 5) (.t 1), none⟩),
 (1, ⟨(some 115), .born 0 (.bsl 1 1 [.int .i64 0] [(0, (.c (.int .i64 1)))]), none⟩),
 (2, ⟨(some 116), .call 13 [(.t 115)], none⟩),
 (3, ⟨(some 117), .build [.int .i64 0, .lit (.slice none 0 0), .lit (.slice none 0 0), .int .i64 0, .int .i64 0, .int .u64 0] [(0, 1, (.c (.int .i64 8))), (1, 1, (.t 116))], none⟩),
 (4, ⟨(some 118), .call 16 [(.t 114), (.c (.int .i64 0)), (.t 117)], none⟩),
 (5, ⟨(some 113), .mv (.t 118), none⟩),
 (6, ⟨(some 119), .ext (.t 113) 0, none⟩),
 (8, ⟨(some 15), .born 1 (.new [.int .i64 0, .int .i64 0, .int .i64 0, .lit (.slice none 0 0), .lit (.slice none 0 0)]), none⟩),
 (9, ⟨(some 16), .born 2 (.new [.int .i64 0, .int .u64 0, .int .i64 0]), none⟩),
 (10, ⟨none, .st 5 (.t 15) (.t 119), none⟩),
 (7, ⟨(some 120), .ext (.t 113) 1, none⟩),
 (11, ⟨none, .st 3 (.t 16) (.t 120), none⟩)]
 [[], [], [1], [2], [0, 3, 2], [4], [5], [5], [], [], [8, 6, 4, 0, 1, 2, 3, 4, 5, 6, 8, 9], [9, 7, 10, 0, 1, 2, 3, 4, 5, 6, 7, 8, 9, 10]] 3)
 k11_6

def k11_8 : ACode :=
 .seq (.drawn [
 (0, ⟨(some 106), .ld (some 5) (.t 1), none⟩),
 (1, ⟨(some 107), .born 0 (.bsl 1 1 [.int .i64 0] [(0, (.c (.int .i64 0)))]), none⟩),
 (2, ⟨(some 108), .call 13 [(.t 107)], none⟩),
 (3, ⟨(some 109), .build [.int .i64 0, .lit (.slice none 0 0), .lit (.slice none 0 0), .int .i64 0, .int .i64 0, .int .u64 0] [(0, 1, (.c (.int .i64 7))), (1, 1, (.t 108))], none⟩),
 (4, ⟨(some 110), .call 16 [(.t 106), (.c (.int .i64 0)), (.t 109)], none⟩),
 (5, ⟨(some 105), .mv (.t 110), none⟩),
 (6, ⟨(some 111), .ext (.t 105) 0, none⟩),
 (8, ⟨(some 13), .born 1 (.new [.int .i64 0, .int .i64 0, .int .i64 0, .lit (.slice none 0 0), .lit (.slice none 0 0)]), none⟩),
 (9, ⟨(some 14), .born 2 (.new [.int .i64 0, .int .u64 0, .int .i64 0]), none⟩),
 (10, ⟨none, .st 5 (.t 13) (.t 111), none⟩),
 (7, ⟨(some 112), .ext (.t 105) 1, none⟩),
 (11, ⟨none, .st 3 (.t 14) (.t 112), none⟩)]
 [[], [], [1], [2], [0, 3, 2], [4], [5], [5], [], [], [8, 6, 4, 0, 1, 2, 3, 4, 5, 6, 8, 9], [9, 7, 10, 0, 1, 2, 3, 4, 5, 6, 7, 8, 9, 10]] 3)
 k11_7

def k11_9 : ACode :=
 .seq (.drawn [
 (0, ⟨(some 96), .ld (some 5) (.t 1), none⟩),
 (1, ⟨(some 97), .born 0 (.bsl 1 1 [.int .i64 0] [(0, (.c (.int .i64 1)))]), none⟩),
 (2, ⟨(some 98), .call 13 [(.t 97)], none⟩),
 (3, ⟨(some 99), .born 1 (.bsl 1 1 [.int .i64 0] [(0, (.c (.int .i64 0)))]), none⟩),
 (4, ⟨(some 100), .call 13 [(.t 99)], none⟩),
 (5, ⟨(some 101), .build [.int .i64 0, .lit (.slice none 0 0), .lit (.slice none 0 0), .int .i64 0, .int .i64 0, .int .u64 0] [(0, 1, (.c (.int .i64 7))), (1, 1, (.t 98)), (2, 1, (.t 100))], none⟩),
 (6, ⟨(some 102), .call 16 [(.t 96), (.c (.int .i64 0)), (.t 101)], none⟩),
 (7, ⟨(some 95), .mv (.t 102), none⟩),
 (8, ⟨(some 103), .ext (.t 95) 0, none⟩),
 (10, ⟨(some 11), .born 2 (.new [.int .i64 0, .int .i64 0, .int .i64 0, .lit (.slice none 0 0), .lit (.slice none 0 0)]), none⟩),
 (11, ⟨(some 12), .born 3 (.new [.int .i64 0, .int .u64 0, .int .i64 0]), none⟩),
 (12, ⟨none, .st 5 (.t 11) (.t 103), none⟩),
 (9, ⟨(some 104), .ext (.t 95) 1, none⟩),
 (13, ⟨none, .st 3 (.t 12) (.t 104), none⟩)]
 [[], [], [1], [], [3, 2], [2, 4], [0, 5, 4], [6], [7], [7], [], [], [10, 8, 6, 0, 1, 2, 3, 4, 5, 6, 7, 8, 10, 11], [11, 9, 12, 0, 1, 2, 3, 4, 5, 6, 7, 8, 9, 10, 11, 12]] 4)
 k11_8

def k11_10 : ACode :=
 .seq (.drawn [
 (0, ⟨(some 86), .ld (some 5) (.t 1), none⟩),
 (1, ⟨(some 87), .born 0 (.bsl 1 1 [.int .i64 0] [(0, (.c (.int .i64 4)))]), none⟩),
 (2, ⟨(some 88), .call 13 [(.t 87)], none⟩),
 (3, ⟨(some 89), .born 1 (.bsl 1 1 [.int .i64 0] [(0, (.c (.int .i64 3)))]), none⟩),
 (4, ⟨(some 90), .call 13 [(.t 89)], none⟩),
 (5, ⟨(some 91), .build [.int .i64 0, .lit (.slice none 0 0), .lit (.slice none 0 0), .int .i64 0, .int .i64 0, .int .u64 0] [(0, 1, (.c (.int .i64 7))), (1, 1, (.t 88)), (2, 1, (.t 90))], none⟩),
 (6, ⟨(some 92), .call 16 [(.t 86), (.c (.int .i64 0)), (.t 91)], none⟩),
 (7, ⟨(some 85), .mv (.t 92), none⟩),
 (8, ⟨(some 93), .ext (.t 85) 0, none⟩),
 (10, ⟨(some 9), .born 2 (.new [.int .i64 0, .int .i64 0, .int .i64 0, .lit (.slice none 0 0), .lit (.slice none 0 0)]), none⟩),
 (11, ⟨(some 10), .born 3 (.new [.int .i64 0, .int .u64 0, .int .i64 0]), none⟩),
 (12, ⟨none, .st 5 (.t 9) (.t 93), none⟩),
 (9, ⟨(some 94), .ext (.t 85) 1, none⟩),
 (13, ⟨none, .st 3 (.t 10) (.t 94), none⟩)]
 [[], [], [1], [], [3, 2], [2, 4], [0, 5, 4], [6], [7], [7], [], [], [10, 8, 6, 0, 1, 2, 3, 4, 5, 6, 7, 8, 10, 11], [11, 9, 12, 0, 1, 2, 3, 4, 5, 6, 7, 8, 9, 10, 11, 12]] 4)
 k11_9

def k11_11 : ACode :=
 .seq (.drawn [
 (0, ⟨(some 78), .ld (some 5) (.t 1), none⟩),
 (1, ⟨(some 79), .born 0 (.bsl 1 1 [.int .i64 0] [(0, (.c (.int .i64 3)))]), none⟩),
 (2, ⟨(some 80), .call 13 [(.t 79)], none⟩),
 (3, ⟨(some 81), .build [.int .i64 0, .lit (.slice none 0 0), .lit (.slice none 0 0), .int .i64 0, .int .i64 0, .int .u64 0] [(0, 1, (.c (.int .i64 7))), (1, 1, (.t 80))], none⟩),
 (4, ⟨(some 82), .call 16 [(.t 78), (.c (.int .i64 0)), (.t 81)], none⟩),
 (5, ⟨(some 77), .mv (.t 82), none⟩),
 (6, ⟨(some 83), .ext (.t 77) 0, none⟩),
 (8, ⟨(some 7), .born 1 (.new [.int .i64 0, .int .i64 0, .int .i64 0, .lit (.slice none 0 0), .lit (.slice none 0 0)]), none⟩),
 (9, ⟨(some 8), .born 2 (.new [.int .i64 0, .int .u64 0, .int .i64 0]), none⟩),
 (10, ⟨none, .st 5 (.t 7) (.t 83), none⟩),
 (7, ⟨(some 84), .ext (.t 77) 1, none⟩),
 (11, ⟨none, .st 3 (.t 8) (.t 84), none⟩)]
 [[], [], [1], [2], [0, 3, 2], [4], [5], [5], [], [], [8, 6, 4, 0, 1, 2, 3, 4, 5, 6, 8, 9], [9, 7, 10, 0, 1, 2, 3, 4, 5, 6, 7, 8, 9, 10]] 3)
 k11_10

def k11_12 : ACode :=
 .seq (.drawn [
 (0, ⟨(some 70), .ld (some 5) (.t 3), none⟩),
 (1, ⟨(some 71), .born 0 (.bsl 1 1 [.int .i64 0] [(0, (.c (.int .i64 1)))]), none⟩),
 (2, ⟨(some 72), .call 13 [(.t 71)], none⟩),
 (3, ⟨(some 73), .build [.int .i64 0, .lit (.slice none 0 0), .lit (.slice none 0 0), .int .i64 0, .int .i64 0, .int .u64 0] [(0, 1, (.c (.int .i64 7))), (1, 1, (.t 72))], none⟩),
 (4, ⟨(some 74), .call 16 [(.t 70), (.c (.int .i64 0)), (.t 73)], none⟩),
 (5, ⟨(some 69), .mv (.t 74), none⟩),
 (6, ⟨(some 75), .ext (.t 69) 0, none⟩),
 (8, ⟨(some 5), .born 1 (.new [.int .i64 0, .int .i64 0, .int .i64 0, .lit (.slice none 0 0), .lit (.slice none 0 0)]), none⟩),
 (9, ⟨(some 6), .born 2 (.new [.int .i64 0, .int .u64 0, .int .i64 0]), none⟩),
 (10, ⟨none, .st 5 (.t 5) (.t 75), none⟩),
 (7, ⟨(some 76), .ext (.t 69) 1, none⟩),
 (11, ⟨none, .st 3 (.t 6) (.t 76), none⟩)]
 [[], [], [1], [2], [0, 3, 2], [4], [5], [5], [], [], [8, 6, 4, 0, 1, 2, 3, 4, 5, 6, 8, 9], [9, 7, 10, 0, 1, 2, 3, 4, 5, 6, 7, 8, 9, 10]] 3)
 k11_11

def k11_13 : ACode :=
 .seq (.drawn [
 (0, ⟨(some 60), .ld (some 5) (.t 1), none⟩),
 (1, ⟨(some 61), .born 0 (.bsl 1 1 [.int .i64 0] [(0, (.c (.int .i64 2)))]), none⟩),
 (2, ⟨(some 62), .call 13 [(.t 61)], none⟩),
 (3, ⟨(some 63), .born 1 (.bsl 1 1 [.int .i64 0] [(0, (.c (.int .i64 3)))]), none⟩),
 (4, ⟨(some 64), .call 13 [(.t 63)], none⟩),
 (5, ⟨(some 65), .build [.int .i64 0, .lit (.slice none 0 0), .lit (.slice none 0 0), .int .i64 0, .int .i64 0, .int .u64 0] [(0, 1, (.c (.int .i64 7))), (1, 1, (.t 62)), (2, 1, (.t 64)), (5, 1, (.c (.int .u64 7)))], none⟩),
 (6, ⟨(some 66), .call 16 [(.t 60), (.c (.int .i64 0)), (.t 65)], none⟩),
 (7, ⟨(some 59), .mv (.t 66), none⟩),
 (8, ⟨(some 67), .ext (.t 59) 0, none⟩),
 (10, ⟨(some 3), .born 2 (.new [.int .i64 0, .int .i64 0, .int .i64 0, .lit (.slice none 0 0), .lit (.slice none 0 0)]), none⟩),
 (11, ⟨(some 4), .born 3 (.new [.int .i64 0, .int .u64 0, .int .i64 0]), none⟩),
 (12, ⟨none, .st 5 (.t 3) (.t 67), none⟩),
 (9, ⟨(some 68), .ext (.t 59) 1, none⟩),
 (13, ⟨none, .st 3 (.t 4) (.t 68), none⟩)]
 [[], [], [1], [], [3, 2], [2, 4], [0, 5, 4], [6], [7], [7], [], [], [10, 8, 6, 0, 1, 2, 3, 4, 5, 6, 7, 8, 10, 11], [11, 9, 12, 0, 1, 2, 3, 4, 5, 6, 7, 8, 9, 10, 11, 12]] 4)
 k11_12

def k11_14 : ACode :=
 .seq (.drawn [
 (0, ⟨(some 50), .ld (some 5) (.t 1), none⟩),
 (1, ⟨(some 51), .born 0 (.bsl 1 1 [.int .i64 0] [(0, (.c (.int .i64 1)))]), none⟩),
 (2, ⟨(some 52), .call 13 [(.t 51)], none⟩),
 (3, ⟨(some 53), .born 1 (.bsl 1 1 [.int .i64 0] [(0, (.c (.int .i64 4)))]), none⟩),
 (4, ⟨(some 54), .call 13 [(.t 53)], none⟩),
 (5, ⟨(some 55), .build [.int .i64 0, .lit (.slice none 0 0), .lit (.slice none 0 0), .int .i64 0, .int .i64 0, .int .u64 0] [(0, 1, (.c (.int .i64 2))), (1, 1, (.t 52)), (2, 1, (.t 54)), (3, 1, (.c (.int .i64 2)))], none⟩),
 (6, ⟨(some 56), .call 35 [(.t 50), (.c (.int .i64 0)), (.t 55)], none⟩),
 (7, ⟨(some 49), .mv (.t 56), none⟩),
 (8, ⟨(some 57), .ext (.t 49) 0, none⟩),
 (10, ⟨none, .st 5 (.t 1) (.t 57), none⟩),
 (9, ⟨(some 58), .ext (.t 49) 1, none⟩)]
 [[], [], [1], [], [3, 2], [2, 4], [0, 5, 4], [6], [7], [7], [8, 6, 0, 1, 2, 3, 4, 5, 6, 7, 8]] 2)
 k11_13

def k11_15 : ACode :=
 .seq (.drawn [
 (0, ⟨(some 40), .ld (some 5) (.t 1), none⟩),
 (1, ⟨(some 41), .born 0 (.bsl 1 1 [.int .i64 0] [(0, (.c (.int .i64 1)))]), none⟩),
 (2, ⟨(some 42), .call 13 [(.t 41)], none⟩),
 (3, ⟨(some 43), .born 1 (.bsl 1 1 [.int .i64 0] [(0, (.c (.int .i64 3)))]), none⟩),
 (4, ⟨(some 44), .call 13 [(.t 43)], none⟩),
 (5, ⟨(some 45), .build [.int .i64 0, .lit (.slice none 0 0), .lit (.slice none 0 0), .int .i64 0, .int .i64 0, .int .u64 0] [(0, 1, (.c (.int .i64 2))), (1, 1, (.t 42)), (2, 1, (.t 44)), (3, 1, (.c (.int .i64 1)))], none⟩),
 (6, ⟨(some 46), .call 35 [(.t 40), (.c (.int .i64 0)), (.t 45)], none⟩),
 (7, ⟨(some 39), .mv (.t 46), none⟩),
 (8, ⟨(some 47), .ext (.t 39) 0, none⟩),
 (10, ⟨none, .st 5 (.t 1) (.t 47), none⟩),
 (9, ⟨(some 48), .ext (.t 39) 1, none⟩)]
 [[], [], [1], [], [3, 2], [2, 4], [0, 5, 4], [6], [7], [7], [8, 6, 0, 1, 2, 3, 4, 5, 6, 7, 8]] 2)
 k11_14

def k11_16 : ACode :=
 .seq (.region [
 ⟨(some 30), .call 39 [], none⟩,
 ⟨(some 31), .bsl 1 1 [.int .i64 0] [(0, (.c (.int .i64 1)))], none⟩,
 ⟨(some 32), .call 13 [(.t 31)], none⟩,
 ⟨(some 33), .bsl 1 1 [.int .i64 0] [(0, (.c (.int .i64 2)))], none⟩,
 ⟨(some 34), .call 13 [(.t 33)], none⟩,
 ⟨(some 35), .build [.int .i64 0, .lit (.slice none 0 0), .lit (.slice none 0 0), .int .i64 0, .int .i64 0, .int .u64 0] [(0, 1, (.c (.int .i64 3))), (1, 1, (.t 32)), (2, 1, (.t 34)), (3, 1, (.c (.int .i64 7))), (4, 1, (.c (.int .i64 9)))], none⟩,
 ⟨(some 36), .call 35 [(.t 30), (.c (.int .i64 0)), (.t 35)], none⟩,
 ⟨(some 29), .mv (.t 36), none⟩,
 ⟨(some 37), .ext (.t 29) 0, none⟩,
 ⟨(some 38), .ext (.t 29) 1, none⟩,
 ⟨(some 1), .new [.int .i64 0, .int .i64 0, .int .i64 0, .lit (.slice none 0 0), .lit (.slice none 0 0)], none⟩,
 ⟨(some 2), .new [.int .i64 0, .int .u64 0, .int .i64 0], none⟩,
 ⟨none, .st 5 (.t 1) (.t 37), none⟩,
 ⟨none, .st 3 (.t 2) (.t 38), none⟩])
 k11_15

def k11_17 : ACode :=
 .seq (.seq (.region [
 ⟨(some 27), .call 12 [], none⟩,
 ⟨(some 28), .un .not (.t 27), none⟩])
 k11_0)
 k11_16

def c11 : ACode :=
 .seq (.region [
 ⟨(some 0), .mv (.c (.bool false)), none⟩])
 k11_17
theorem ok11 : fnOk Try.prog 11 c11 259 [.t 0] = true := by kernel_rfl

def k12_0 : ACode :=
 .seq (.drawn [
 (0, ⟨(some 21), .ld (some 3) (.t 2), none⟩),
 (1, ⟨(some 22), .build [.int .i64 0, .int .u64 0, .int .i64 0] [], none⟩),
 (2, ⟨(some 23), .eqs false [0, 0, 0] (.t 21) (.t 22), none⟩),
 (3, ⟨(some 24), .mv (.t 23), none⟩),
 (4, ⟨(some 25), .ld (some 3) (.t 4), (some (24, true))⟩),
 (5, ⟨(some 26), .build [.int .i64 0, .int .u64 0, .int .i64 0] [(1, 1, (.c (.int .u64 42)))], (some (24, true))⟩),
 (6, ⟨(some 27), .eqs false [0, 0, 0] (.t 25) (.t 26), (some (24, true))⟩),
 (7, ⟨(some 28), .pick (.t 24) (.t 27) (.c (.bool false)), none⟩),
 (8, ⟨(some 29), .mv (.t 28), none⟩),
 (9, ⟨(some 30), .ld (some 5) (.t 3), (some (29, true))⟩),
 (10, ⟨(some 31), .call 39 [], (some (29, true))⟩),
 (11, ⟨(some 32), .call 17 [(.t 30), (.t 31)], (some (29, true))⟩),
 (12, ⟨(some 33), .pick (.t 29) (.t 32) (.c (.bool false)), none⟩),
 (13, ⟨(some 0), .mv (.t 33), none⟩)]
 [[], [], [0, 1], [2], [3], [3], [4, 5, 3], [3, 6], [7, 3], [8], [8, 8], [9, 10, 10, 8], [8, 11], [12, 11, 0, 1, 2, 3, 4, 5, 6, 7, 8, 9, 10, 11, 12]] 0)
 (.ret)

def k12_1 : ACode :=
 .seq (.drawn [
 (0, ⟨(some 14), .ld (some 5) (.t 1), none⟩),
 (1, ⟨(some 15), .born 0 (.bsl 1 1 [.int .i64 0] [(0, (.c (.int .i64 1)))]), none⟩),
 (2, ⟨(some 16), .call 13 [(.t 15)], none⟩),
 (3, ⟨(some 17), .build [.int .i64 0, .lit (.slice none 0 0), .lit (.slice none 0 0), .int .i64 0, .int .i64 0, .int .u64 0] [(0, 1, (.c (.int .i64 8))), (1, 1, (.t 16))], none⟩),
 (4, ⟨(some 18), .call 16 [(.t 14), (.c (.int .i64 1)), (.t 17)], none⟩),
 (5, ⟨(some 13), .mv (.t 18), none⟩),
 (6, ⟨(some 19), .ext (.t 13) 0, none⟩),
 (8, ⟨(some 3), .born 1 (.new [.int .i64 0, .int .i64 0, .int .i64 0, .lit (.slice none 0 0), .lit (.slice none 0 0)]), none⟩),
 (9, ⟨(some 4), .born 2 (.new [.int .i64 0, .int .u64 0, .int .i64 0]), none⟩),
 (10, ⟨none, .st 5 (.t 3) (.t 19), none⟩),
 (7, ⟨(some 20), .ext (.t 13) 1, none⟩),
 (11, ⟨none, .st 3 (.t 4) (.t 20), none⟩)]
 [[], [], [1], [2], [0, 3, 2], [4], [5], [5], [], [], [8, 6, 4, 0, 1, 2, 3, 4, 5, 6, 8, 9], [9, 7, 10, 0, 1, 2, 3, 4, 5, 6, 7, 8, 9, 10]] 3)
 k12_0

def k12_2 : ACode :=
 .seq (.region [
 ⟨(some 6), .call 39 [], none⟩,
 ⟨(some 7), .bsl 1 1 [.int .i64 0] [(0, (.c (.int .i64 1)))], none⟩,
 ⟨(some 8), .call 13 [(.t 7)], none⟩,
 ⟨(some 9), .build [.int .i64 0, .lit (.slice none 0 0), .lit (.slice none 0 0), .int .i64 0, .int .i64 0, .int .u64 0] [(0, 1, (.c (.int .i64 7))), (1, 1, (.t 8)), (5, 1, (.c (.int .u64 42)))], none⟩,
 ⟨(some 10), .call 16 [(.t 6), (.c (.int .i64 0)), (.t 9)], none⟩,
 ⟨(some 5), .mv (.t 10), none⟩,
 ⟨(some 11), .ext (.t 5) 0, none⟩,
 ⟨(some 12), .ext (.t 5) 1, none⟩,
 ⟨(some 1), .new [.int .i64 0, .int .i64 0, .int .i64 0, .lit (.slice none 0 0), .lit (.slice none 0 0)], none⟩,
 ⟨(some 2), .new [.int .i64 0, .int .u64 0, .int .i64 0], none⟩,
 ⟨none, .st 5 (.t 1) (.t 11), none⟩,
 ⟨none, .st 3 (.t 2) (.t 12), none⟩])
 k12_1

def c12 : ACode :=
 .seq (.region [
 ⟨(some 0), .mv (.c (.bool false)), none⟩])
 k12_2
theorem ok12 : fnOk Try.prog 12 c12 34 [.t 0] = true := by kernel_rfl

def k13_0 : ACode :=
 .seq (.region [
 ⟨(some 3), .mv (.t 0), none⟩,
 ⟨(some 4), .build [.lit (.slice none 0 0)] [(0, 1, (.t 3))], none⟩,
 ⟨none, .st 1 (.t 2) (.t 4), none⟩])
 (.ret)

def c13 : ACode :=
 .seq (.region [
 ⟨(some 2), .new [.lit (.slice none 0 0)], none⟩])
 k13_0
theorem ok13 : fnOk Try.prog 13 c13 5 [.c 2 (some 1)] = true := by kernel_rfl

def k14_0 : ACode :=
 .seq (.region [
 ⟨(some 5), .fld 3 (.t 2), none⟩,
 ⟨(some 6), .ld none (.t 5), none⟩,
 ⟨(some 7), .len false (.t 6), none⟩,
 ⟨(some 8), .bin .gtr (.t 7) (.c (.int .i64 100)), none⟩,
 ⟨(some 9), .mv (.t 8), none⟩,
 ⟨(some 10), .fld 4 (.t 2), (some (9, false))⟩,
 ⟨(some 11), .ld none (.t 10), (some (9, false))⟩,
 ⟨(some 12), .len false (.t 11), (some (9, false))⟩,
 ⟨(some 13), .bin .gtr (.t 12) (.c (.int .i64 50)), (some (9, false))⟩,
 ⟨(some 14), .pick (.t 9) (.c (.bool true)) (.t 13), none⟩,
 ⟨(some 15), .mv (.t 14), none⟩,
 ⟨(some 16), .fld 1 (.t 3), (some (15, false))⟩,
 ⟨(some 17), .fld 0 (.t 16), (some (15, false))⟩,
 ⟨(some 18), .ld none (.t 17), (some (15, false))⟩,
 ⟨(some 19), .len false (.t 18), (some (15, false))⟩,
 ⟨(some 20), .bin .gtr (.t 19) (.c (.int .i64 10)), (some (15, false))⟩,
 ⟨(some 21), .pick (.t 15) (.c (.bool true)) (.t 20), none⟩,
 ⟨(some 22), .mv (.t 21), none⟩,
 ⟨(some 23), .fld 2 (.t 3), (some (22, false))⟩,
 ⟨(some 24), .fld 0 (.t 23), (some (22, false))⟩,
 ⟨(some 25), .ld none (.t 24), (some (22, false))⟩,
 ⟨(some 26), .len false (.t 25), (some (22, false))⟩,
 ⟨(some 27), .bin .gtr (.t 26) (.c (.int .i64 10)), (some (22, false))⟩,
 ⟨(some 28), .pick (.t 22) (.c (.bool true)) (.t 27), none⟩,
 ⟨(some 4), .mv (.t 28), none⟩])
 (.ret)

def c14 : ACode :=
 .seq (.region [
 ⟨(some 2), .box (.t 0), none⟩,
 ⟨(some 3), .box (.t 1), none⟩,
 ⟨(some 4), .mv (.c (.bool false)), none⟩])
 k14_0
theorem ok14 : fnOk Try.prog 14 c14 29 [.t 4] = true := by kernel_rfl

def k39_0 : ACode :=
 .seq (.region [
 ⟨(some 4), .call 54 [], none⟩,
 ⟨(some 5), .call 53 [(.t 4), (.c (.int .i64 64))], none⟩,
 ⟨(some 3), .mv (.t 5), none⟩,
 ⟨(some 6), .ext (.t 3) 0, none⟩,
 ⟨(some 7), .ext (.t 3) 1, none⟩,
 ⟨(some 1), .new [.int .i64 0, .int .i64 0, .int .i64 0, .lit (.slice none 0 0), .lit (.slice none 0 0)], none⟩,
 ⟨none, .st 5 (.t 1) (.t 6), none⟩,
 ⟨(some 2), .mv (.t 7), none⟩])
 (.seq (.region [
 ⟨(some 8), .ld (some 5) (.t 1), none⟩,
 ⟨none, .st 5 (.t 0) (.t 8), none⟩])
 (.ret))

def c39 : ACode :=
 .seq (.region [
 ⟨(some 0), .new [.int .i64 0, .int .i64 0, .int .i64 0, .lit (.slice none 0 0), .lit (.slice none 0 0)], none⟩])
 k39_0
theorem ok39 : fnOk Try.prog 39 c39 9 [.c 0 (some 5)] = true := by kernel_rfl

end Go.Proofs.Ytipigjckoejfpaa.Ax
