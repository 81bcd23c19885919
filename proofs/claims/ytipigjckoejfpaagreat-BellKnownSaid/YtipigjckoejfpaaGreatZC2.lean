/- Texts put behind one another: AxCLaw19. Conditions: none. -/
import Derived.Test.YtipigjckoejfpaaGreatAxEnterZ
import Derived.Test.YtipigjckoejfpaaGreatProg
import Derived.KernelRfl
set_option linter.unusedSimpArgs false
set_option linter.unusedVariables false
namespace Go.Proofs.YtipigjckoejfpaaGreat.Ax
open Go Go.Ax
set_option maxRecDepth 100000

def k6_0 : ACode :=
 .cond (.t 20)
 (.seq (.region [
 ⟨(some 0), .mv (.c (.bool false)), none⟩])
 (.ret))
 (.skip)

def k6_1 : ACode :=
 .cond (.t 111)
 (.seq (.region [
 ⟨(some 0), .mv (.c (.bool false)), none⟩])
 (.ret))
 (.skip)

def k6_2 : ACode :=
 .seq (.region [
 ⟨(some 112), .fld 0 (.t 3), none⟩,
 ⟨(some 113), .ld none (.t 112), none⟩,
 ⟨(some 114), .bin .eql (.t 113) (.c (.int .i64 14)), none⟩,
 ⟨(some 115), .mv (.t 114), none⟩,
 ⟨(some 116), .fld 0 (.t 5), (some (115, true))⟩,
 ⟨(some 117), .ld none (.t 116), (some (115, true))⟩,
 ⟨(some 118), .bin .eql (.t 117) (.c (.int .i64 6)), (some (115, true))⟩,
 ⟨(some 119), .pick (.t 115) (.t 118) (.c (.bool false)), none⟩,
 ⟨(some 120), .mv (.t 119), none⟩,
 ⟨(some 121), .fld 0 (.t 7), (some (120, true))⟩,
 ⟨(some 122), .ld none (.t 121), (some (120, true))⟩,
 ⟨(some 123), .bin .eql (.t 122) (.c (.int .i64 6)), (some (120, true))⟩,
 ⟨(some 124), .pick (.t 120) (.t 123) (.c (.bool false)), none⟩,
 ⟨(some 125), .mv (.t 124), none⟩,
 ⟨(some 126), .fld 0 (.t 9), (some (125, true))⟩,
 ⟨(some 127), .ld none (.t 126), (some (125, true))⟩,
 ⟨(some 128), .bin .eql (.t 127) (.c (.int .i64 7)), (some (125, true))⟩,
 ⟨(some 129), .pick (.t 125) (.t 128) (.c (.bool false)), none⟩,
 ⟨(some 130), .mv (.t 129), none⟩,
 ⟨(some 131), .fld 0 (.t 11), (some (130, true))⟩,
 ⟨(some 132), .ld none (.t 131), (some (130, true))⟩,
 ⟨(some 133), .bin .eql (.t 132) (.c (.int .i64 4)), (some (130, true))⟩,
 ⟨(some 134), .pick (.t 130) (.t 133) (.c (.bool false)), none⟩,
 ⟨(some 135), .mv (.t 134), none⟩,
 ⟨(some 136), .fld 0 (.t 13), (some (135, true))⟩,
 ⟨(some 137), .ld none (.t 136), (some (135, true))⟩,
 ⟨(some 138), .bin .eql (.t 137) (.c (.int .i64 1)), (some (135, true))⟩,
 ⟨(some 139), .pick (.t 135) (.t 138) (.c (.bool false)), none⟩,
 ⟨(some 140), .mv (.t 139), none⟩,
 ⟨(some 141), .ld (some 3) (.t 15), (some (140, true))⟩,
 ⟨(some 142), .build [.int .i64 0, .int .u64 0, .int .i64 0] [], (some (140, true))⟩,
 ⟨(some 143), .eqs false [0, 0, 0] (.t 141) (.t 142), (some (140, true))⟩,
 ⟨(some 144), .pick (.t 140) (.t 143) (.c (.bool false)), none⟩,
 ⟨(some 145), .mv (.t 144), none⟩,
 ⟨(some 146), .ld (some 3) (.t 16), (some (145, true))⟩,
 ⟨(some 147), .build [.int .i64 0, .int .u64 0, .int .i64 0] [], (some (145, true))⟩,
 ⟨(some 148), .eqs false [0, 0, 0] (.t 146) (.t 147), (some (145, true))⟩,
 ⟨(some 149), .pick (.t 145) (.t 148) (.c (.bool false)), none⟩,
 ⟨(some 150), .mv (.t 149), none⟩,
 ⟨(some 151), .ld (some 3) (.t 18), (some (150, true))⟩,
 ⟨(some 152), .build [.int .i64 0, .int .u64 0, .int .i64 0] [(1, 1, (.c (.int .u64 9)))], (some (150, true))⟩,
 ⟨(some 153), .eqs false [0, 0, 0] (.t 151) (.t 152), (some (150, true))⟩,
 ⟨(some 154), .pick (.t 150) (.t 153) (.c (.bool false)), none⟩,
 ⟨(some 155), .mv (.t 154), none⟩,
 ⟨(some 156), .fld 3 (.t 1), (some (155, true))⟩,
 ⟨(some 157), .ld none (.t 156), (some (155, true))⟩,
 ⟨(some 158), .ixs 5 (.t 157) (.c (.int .i64 4)), (some (155, true))⟩,
 ⟨(some 159), .fld 0 (.t 158), (some (155, true))⟩,
 ⟨(some 160), .ld (some 4) (.t 159), (some (155, true))⟩,
 ⟨(some 161), .call 51 [(.t 160)], (some (155, true))⟩,
 ⟨(some 162), .pick (.t 155) (.t 161) (.c (.bool false)), none⟩,
 ⟨(some 163), .mv (.t 162), none⟩,
 ⟨(some 164), .fld 4 (.t 1), (some (163, true))⟩,
 ⟨(some 165), .ld none (.t 164), (some (163, true))⟩,
 ⟨(some 166), .ixs 13 (.t 165) (.c (.int .i64 4)), (some (163, true))⟩,
 ⟨(some 167), .ld (some 13) (.t 166), (some (163, true))⟩,
 ⟨(some 168), .build [.int .i64 0, .int .i64 0, .int .i64 0, .int .i64 0, .int .i64 0, .int .i64 0, .int .i64 0, .bool false, .int .u64 0, .int .u64 0, .int .u64 0, .int .u64 0, .int .u64 0] [(0, 1, (.c (.int .i64 4)))], (some (163, true))⟩,
 ⟨(some 169), .eqs false [0, 0, 0, 0, 0, 0, 0, 1, 0, 0, 0, 0, 0] (.t 167) (.t 168), (some (163, true))⟩,
 ⟨(some 170), .pick (.t 163) (.t 169) (.c (.bool false)), none⟩,
 ⟨(some 0), .mv (.t 170), none⟩])
 (.ret)

def k6_3 : ACode :=
 .seq (.seq (.region [
 ⟨(some 102), .fld 3 (.t 1), none⟩,
 ⟨(some 103), .ld none (.t 102), none⟩,
 ⟨(some 104), .len false (.t 103), none⟩,
 ⟨(some 105), .bin .neq (.t 104) (.c (.int .i64 32)), none⟩,
 ⟨(some 106), .mv (.t 105), none⟩,
 ⟨(some 107), .fld 4 (.t 1), (some (106, false))⟩,
 ⟨(some 108), .ld none (.t 107), (some (106, false))⟩,
 ⟨(some 109), .len false (.t 108), (some (106, false))⟩,
 ⟨(some 110), .bin .neq (.t 109) (.c (.int .i64 16)), (some (106, false))⟩,
 ⟨(some 111), .pick (.t 106) (.c (.bool true)) (.t 110), none⟩])
 k6_1)
 k6_2

def k6_4 : ACode :=
 .seq (.drawn [
 (0, ⟨(some 95), .ld (some 5) (.t 14), none⟩),
 (1, ⟨(some 96), .born 0 (.bsl 1 1 [.int .i64 0] [(0, (.c (.int .i64 5)))]), none⟩),
 (2, ⟨(some 97), .call 50 [(.t 96)], none⟩),
 (3, ⟨(some 98), .build [.int .i64 0, .lit (.slice none 0 0), .lit (.slice none 0 0), .int .i64 0, .int .i64 0, .int .u64 0] [(0, 1, (.c (.int .i64 10))), (1, 1, (.t 97))], none⟩),
 (4, ⟨(some 99), .call 49 [(.t 95), (.c (.int .i64 0)), (.t 98)], none⟩),
 (5, ⟨(some 94), .mv (.t 99), none⟩),
 (6, ⟨(some 100), .ext (.t 94) 0, none⟩),
 (8, ⟨(some 17), .born 1 (.new [.int .i64 0, .int .i64 0, .int .i64 0, .lit (.slice none 0 0), .lit (.slice none 0 0)]), none⟩),
 (9, ⟨(some 18), .born 2 (.new [.int .i64 0, .int .u64 0, .int .i64 0]), none⟩),
 (10, ⟨none, .st 5 (.t 17) (.t 100), none⟩),
 (7, ⟨(some 101), .ext (.t 94) 1, none⟩),
 (11, ⟨none, .st 3 (.t 18) (.t 101), none⟩)]
 [[], [], [1], [2], [0, 3, 2], [4], [5], [5], [], [], [8, 6, 4, 0, 1, 2, 3, 4, 5, 6, 8, 9], [9, 7, 10, 0, 1, 2, 3, 4, 5, 6, 7, 8, 9, 10]] 3)
 k6_3

def k6_5 : ACode :=
 .seq (.drawn [
 (0, ⟨(some 87), .ld (some 5) (.t 14), none⟩),
 (1, ⟨(some 88), .born 0 (.bsl 1 1 [.int .i64 0] [(0, (.c (.int .i64 4)))]), none⟩),
 (2, ⟨(some 89), .call 50 [(.t 88)], none⟩),
 (3, ⟨(some 90), .build [.int .i64 0, .lit (.slice none 0 0), .lit (.slice none 0 0), .int .i64 0, .int .i64 0, .int .u64 0] [(0, 1, (.c (.int .i64 9))), (1, 1, (.t 89))], none⟩),
 (4, ⟨(some 91), .call 49 [(.t 87), (.c (.int .i64 0)), (.t 90)], none⟩),
 (5, ⟨(some 86), .mv (.t 91), none⟩),
 (6, ⟨(some 92), .ext (.t 86) 0, none⟩),
 (8, ⟨none, .st 5 (.t 14) (.t 92), none⟩),
 (7, ⟨(some 93), .ext (.t 86) 1, none⟩)]
 [[], [], [1], [2], [0, 3, 2], [4], [5], [5], [6, 4, 0, 1, 2, 3, 4, 5, 6]] 1)
 k6_4

def k6_6 : ACode :=
 .seq (.drawn [
 (0, ⟨(some 79), .ld (some 5) (.t 14), none⟩),
 (1, ⟨(some 80), .born 0 (.bsl 1 1 [.int .i64 0] [(0, (.c (.int .i64 6)))]), none⟩),
 (2, ⟨(some 81), .call 50 [(.t 80)], none⟩),
 (3, ⟨(some 82), .build [.int .i64 0, .lit (.slice none 0 0), .lit (.slice none 0 0), .int .i64 0, .int .i64 0, .int .u64 0] [(0, 1, (.c (.int .i64 9))), (1, 1, (.t 81))], none⟩),
 (4, ⟨(some 83), .call 49 [(.t 79), (.c (.int .i64 0)), (.t 82)], none⟩),
 (5, ⟨(some 78), .mv (.t 83), none⟩),
 (6, ⟨(some 84), .ext (.t 78) 0, none⟩),
 (8, ⟨(some 16), .born 1 (.new [.int .i64 0, .int .u64 0, .int .i64 0]), none⟩),
 (9, ⟨none, .st 5 (.t 14) (.t 84), none⟩),
 (7, ⟨(some 85), .ext (.t 78) 1, none⟩),
 (10, ⟨none, .st 3 (.t 16) (.t 85), none⟩)]
 [[], [], [1], [2], [0, 3, 2], [4], [5], [5], [], [6, 4, 0, 1, 2, 3, 4, 5, 6, 8], [8, 7, 9, 0, 1, 2, 3, 4, 5, 6, 7, 8, 9]] 2)
 k6_5

def k6_7 : ACode :=
 .seq (.drawn [
 (0, ⟨(some 71), .ld (some 5) (.t 1), none⟩),
 (1, ⟨(some 72), .born 0 (.bsl 1 1 [.int .i64 0] [(0, (.c (.int .i64 6)))]), none⟩),
 (2, ⟨(some 73), .call 50 [(.t 72)], none⟩),
 (3, ⟨(some 74), .build [.int .i64 0, .lit (.slice none 0 0), .lit (.slice none 0 0), .int .i64 0, .int .i64 0, .int .u64 0] [(0, 1, (.c (.int .i64 9))), (1, 1, (.t 73))], none⟩),
 (4, ⟨(some 75), .call 49 [(.t 71), (.c (.int .i64 0)), (.t 74)], none⟩),
 (5, ⟨(some 70), .mv (.t 75), none⟩),
 (6, ⟨(some 76), .ext (.t 70) 0, none⟩),
 (8, ⟨(some 14), .born 1 (.new [.int .i64 0, .int .i64 0, .int .i64 0, .lit (.slice none 0 0), .lit (.slice none 0 0)]), none⟩),
 (9, ⟨(some 15), .born 2 (.new [.int .i64 0, .int .u64 0, .int .i64 0]), none⟩),
 (10, ⟨none, .st 5 (.t 14) (.t 76), none⟩),
 (7, ⟨(some 77), .ext (.t 70) 1, none⟩),
 (11, ⟨none, .st 3 (.t 15) (.t 77), none⟩)]
 [[], [], [1], [2], [0, 3, 2], [4], [5], [5], [], [], [8, 6, 4, 0, 1, 2, 3, 4, 5, 6, 8, 9], [9, 7, 10, 0, 1, 2, 3, 4, 5, 6, 7, 8, 9, 10]] 3)
 k6_6

def k6_8 : ACode :=
 .seq (.drawn [
 (0, ⟨(some 63), .ld (some 5) (.t 1), none⟩),
 (1, ⟨(some 64), .born 0 (.bsl 1 1 [.int .i64 0] [(0, (.c (.int .i64 3)))]), none⟩),
 (2, ⟨(some 65), .call 50 [(.t 64)], none⟩),
 (3, ⟨(some 66), .build [.int .i64 0, .lit (.slice none 0 0), .lit (.slice none 0 0), .int .i64 0, .int .i64 0, .int .u64 0] [(0, 1, (.c (.int .i64 13))), (1, 1, (.t 65))], none⟩),
 (4, ⟨(some 67), .call 49 [(.t 63), (.c (.int .i64 0)), (.t 66)], none⟩),
 (5, ⟨(some 62), .mv (.t 67), none⟩),
 (6, ⟨(some 68), .ext (.t 62) 0, none⟩),
 (8, ⟨(some 12), .born 1 (.new [.int .i64 0, .int .i64 0, .int .i64 0, .lit (.slice none 0 0), .lit (.slice none 0 0)]), none⟩),
 (9, ⟨(some 13), .born 2 (.new [.int .i64 0, .int .u64 0, .int .i64 0]), none⟩),
 (10, ⟨none, .st 5 (.t 12) (.t 68), none⟩),
 (7, ⟨(some 69), .ext (.t 62) 1, none⟩),
 (11, ⟨none, .st 3 (.t 13) (.t 69), none⟩)]
 [[], [], [1], [2], [0, 3, 2], [4], [5], [5], [], [], [8, 6, 4, 0, 1, 2, 3, 4, 5, 6, 8, 9], [9, 7, 10, 0, 1, 2, 3, 4, 5, 6, 7, 8, 9, 10]] 3)
 k6_7

def k6_9 : ACode :=
 .seq (.drawn [
 (0, ⟨(some 55), .ld (some 5) (.t 1), none⟩),
 (1, ⟨(some 56), .born 0 (.bsl 1 1 [.int .i64 0] [(0, (.c (.int .i64 7)))]), none⟩),
 (2, ⟨(some 57), .call 50 [(.t 56)], none⟩),
 (3, ⟨(some 58), .build [.int .i64 0, .lit (.slice none 0 0), .lit (.slice none 0 0), .int .i64 0, .int .i64 0, .int .u64 0] [(0, 1, (.c (.int .i64 10))), (1, 1, (.t 57))], none⟩),
 (4, ⟨(some 59), .call 49 [(.t 55), (.c (.int .i64 0)), (.t 58)], none⟩),
 (5, ⟨(some 54), .mv (.t 59), none⟩),
 (6, ⟨(some 60), .ext (.t 54) 0, none⟩),
 (8, ⟨(some 10), .born 1 (.new [.int .i64 0, .int .i64 0, .int .i64 0, .lit (.slice none 0 0), .lit (.slice none 0 0)]), none⟩),
 (9, ⟨(some 11), .born 2 (.new [.int .i64 0, .int .u64 0, .int .i64 0]), none⟩),
 (10, ⟨none, .st 5 (.t 10) (.t 60), none⟩),
 (7, ⟨(some 61), .ext (.t 54) 1, none⟩),
 (11, ⟨none, .st 3 (.t 11) (.t 61), none⟩)]
 [[], [], [1], [2], [0, 3, 2], [4], [5], [5], [], [], [8, 6, 4, 0, 1, 2, 3, 4, 5, 6, 8, 9], [9, 7, 10, 0, 1, 2, 3, 4, 5, 6, 7, 8, 9, 10]] 3)
 k6_8

def k6_10 : ACode :=
 .seq (.drawn [
 (0, ⟨(some 47), .ld (some 5) (.t 1), none⟩),
 (1, ⟨(some 48), .born 0 (.bsl 1 1 [.int .i64 0] [(0, (.c (.int .i64 1)))]), none⟩),
 (2, ⟨(some 49), .call 50 [(.t 48)], none⟩),
 (3, ⟨(some 50), .build [.int .i64 0, .lit (.slice none 0 0), .lit (.slice none 0 0), .int .i64 0, .int .i64 0, .int .u64 0] [(0, 1, (.c (.int .i64 9))), (1, 1, (.t 49))], none⟩),
 (4, ⟨(some 51), .call 49 [(.t 47), (.c (.int .i64 0)), (.t 50)], none⟩),
 (5, ⟨(some 46), .mv (.t 51), none⟩),
 (6, ⟨(some 52), .ext (.t 46) 0, none⟩),
 (8, ⟨(some 8), .born 1 (.new [.int .i64 0, .int .i64 0, .int .i64 0, .lit (.slice none 0 0), .lit (.slice none 0 0)]), none⟩),
 (9, ⟨(some 9), .born 2 (.new [.int .i64 0, .int .u64 0, .int .i64 0]), none⟩),
 (10, ⟨none, .st 5 (.t 8) (.t 52), none⟩),
 (7, ⟨(some 53), .ext (.t 46) 1, none⟩),
 (11, ⟨none, .st 3 (.t 9) (.t 53), none⟩)]
 [[], [], [1], [2], [0, 3, 2], [4], [5], [5], [], [], [8, 6, 4, 0, 1, 2, 3, 4, 5, 6, 8, 9], [9, 7, 10, 0, 1, 2, 3, 4, 5, 6, 7, 8, 9, 10]] 3)
 k6_9

def k6_11 : ACode :=
 .seq (.drawn [
 (0, ⟨(some 39), .ld (some 5) (.t 1), none⟩),
 (1, ⟨(some 40), .born 0 (.bsl 1 1 [.int .i64 0] [(0, (.c (.int .i64 6)))]), none⟩),
 (2, ⟨(some 41), .call 50 [(.t 40)], none⟩),
 (3, ⟨(some 42), .build [.int .i64 0, .lit (.slice none 0 0), .lit (.slice none 0 0), .int .i64 0, .int .i64 0, .int .u64 0] [(0, 1, (.c (.int .i64 10))), (1, 1, (.t 41))], none⟩),
 (4, ⟨(some 43), .call 49 [(.t 39), (.c (.int .i64 0)), (.t 42)], none⟩),
 (5, ⟨(some 38), .mv (.t 43), none⟩),
 (6, ⟨(some 44), .ext (.t 38) 0, none⟩),
 (8, ⟨(some 6), .born 1 (.new [.int .i64 0, .int .i64 0, .int .i64 0, .lit (.slice none 0 0), .lit (.slice none 0 0)]), none⟩),
 (9, ⟨(some 7), .born 2 (.new [.int .i64 0, .int .u64 0, .int .i64 0]), none⟩),
 (10, ⟨none, .st 5 (.t 6) (.t 44), none⟩),
 (7, ⟨(some 45), .ext (.t 38) 1, none⟩),
 (11, ⟨none, .st 3 (.t 7) (.t 45), none⟩)]
 [[], [], [1], [2], [0, 3, 2], [4], [5], [5], [], [], [8, 6, 4, 0, 1, 2, 3, 4, 5, 6, 8, 9], [9, 7, 10, 0, 1, 2, 3, 4, 5, 6, 7, 8, 9, 10]] 3)
 k6_10

def k6_12 : ACode :=
 .seq (.drawn [
 (0, ⟨(some 31), .ld (some 5) (.t 1), none⟩),
 (1, ⟨(some 32), .born 0 (.bsl 1 1 [.int .i64 0] [(0, (.c (.int .i64 5)))]), none⟩),
 (2, ⟨(some 33), .call 50 [(.t 32)], none⟩),
 (3, ⟨(some 34), .build [.int .i64 0, .lit (.slice none 0 0), .lit (.slice none 0 0), .int .i64 0, .int .i64 0, .int .u64 0] [(0, 1, (.c (.int .i64 9))), (1, 1, (.t 33))], none⟩),
 (4, ⟨(some 35), .call 49 [(.t 31), (.c (.int .i64 0)), (.t 34)], none⟩),
 (5, ⟨(some 30), .mv (.t 35), none⟩),
 (6, ⟨(some 36), .ext (.t 30) 0, none⟩),
 (8, ⟨(some 4), .born 1 (.new [.int .i64 0, .int .i64 0, .int .i64 0, .lit (.slice none 0 0), .lit (.slice none 0 0)]), none⟩),
 (9, ⟨(some 5), .born 2 (.new [.int .i64 0, .int .u64 0, .int .i64 0]), none⟩),
 (10, ⟨none, .st 5 (.t 4) (.t 36), none⟩),
 (7, ⟨(some 37), .ext (.t 30) 1, none⟩),
 (11, ⟨none, .st 3 (.t 5) (.t 37), none⟩)]
 [[], [], [1], [2], [0, 3, 2], [4], [5], [5], [], [], [8, 6, 4, 0, 1, 2, 3, 4, 5, 6, 8, 9], [9, 7, 10, 0, 1, 2, 3, 4, 5, 6, 7, 8, 9, 10]] 3)
 k6_11

def k6_13 : ACode :=
 .seq (.drawn [
 (0, ⟨(some 23), .ld (some 5) (.t 1), none⟩),
 (1, ⟨(some 24), .born 0 (.bsl 1 1 [.int .i64 0] [(0, (.c (.int .i64 3)))]), none⟩),
 (2, ⟨(some 25), .call 50 [(.t 24)], none⟩),
 (3, ⟨(some 26), .build [.int .i64 0, .lit (.slice none 0 0), .lit (.slice none 0 0), .int .i64 0, .int .i64 0, .int .u64 0] [(0, 1, (.c (.int .i64 10))), (1, 1, (.t 25))], none⟩),
 (4, ⟨(some 27), .call 49 [(.t 23), (.c (.int .i64 0)), (.t 26)], none⟩),
 (5, ⟨(some 22), .mv (.t 27), none⟩),
 (6, ⟨(some 28), .ext (.t 22) 0, none⟩),
 (8, ⟨(some 2), .born 1 (.new [.int .i64 0, .int .i64 0, .int .i64 0, .lit (.slice none 0 0), .lit (.slice none 0 0)]), none⟩),
 (9, ⟨(some 3), .born 2 (.new [.int .i64 0, .int .u64 0, .int .i64 0]), none⟩),
 (10, ⟨none, .st 5 (.t 2) (.t 28), none⟩),
 (7, ⟨(some 29), .ext (.t 22) 1, none⟩),
 (11, ⟨none, .st 3 (.t 3) (.t 29), none⟩)]
 [[], [], [1], [2], [0, 3, 2], [4], [5], [5], [], [], [8, 6, 4, 0, 1, 2, 3, 4, 5, 6, 8, 9], [9, 7, 10, 0, 1, 2, 3, 4, 5, 6, 7, 8, 9, 10]] 3)
 k6_12

def k6_14 : ACode :=
 .seq (.region [
 ⟨(some 21), .call 48 [], none⟩,
 ⟨(some 1), .new [.int .i64 0, .int .i64 0, .int .i64 0, .lit (.slice none 0 0), .lit (.slice none 0 0)], none⟩,
 ⟨none, .st 5 (.t 1) (.t 21), none⟩])
 k6_13

def k6_15 : ACode :=
 .seq (.seq (.region [
 ⟨(some 19), .call 47 [], none⟩,
 ⟨(some 20), .un .not (.t 19), none⟩])
 k6_0)
 k6_14

def c6 : ACode :=
 .seq (.region [
 ⟨(some 0), .mv (.c (.bool false)), none⟩])
 k6_15
theorem ok6 : fnOk Tryz.prog 6 c6 171 [.t 0] = true := by kernel_rfl

def k8_0 : ACode :=
 .cond (.t 19)
 (.seq (.region [
 ⟨(some 8), .mv (.c (.bool false)), none⟩])
 (.ret))
 (.skip)

def k8_1 : ACode :=
 .cond (.t 38)
 (.seq (.region [
 ⟨(some 8), .mv (.c (.bool true)), none⟩])
 (.ret))
 (.skip)

def k8_2 : ACode :=
 .seq (.region [
 ⟨(some 49), .ld (some 5) (.t 10), none⟩,
 ⟨(some 50), .ld (some 5) (.t 4), none⟩,
 ⟨(some 51), .call 34 [(.t 49), (.t 50)], none⟩,
 ⟨(some 8), .mv (.t 51), none⟩])
 (.ret)

def k8_3 : ACode :=
 .cond (.t 67)
 (.seq (.region [
 ⟨(some 8), .mv (.c (.bool false)), none⟩])
 (.ret))
 (.skip)

def k8_4 : ACode :=
 .seq (.region [
 ⟨(some 65), .ld (some 3) (.t 11), none⟩,
 ⟨(some 66), .build [.int .i64 0, .int .u64 0, .int .i64 0] [], none⟩,
 ⟨(some 67), .eqs true [0, 0, 0] (.t 65) (.t 66), none⟩])
 k8_3

def k8_5 : ACode :=
 .seq (.block 1 (
 .seq (.region [
 ⟨(some 59), .ld (some 5) (.t 12), none⟩,
 ⟨(some 60), .mv (.t 1), none⟩,
 ⟨(some 61), .ld (some 6) (.t 9), none⟩,
 ⟨(some 62), .call 49 [(.t 59), (.t 60), (.t 61)], none⟩,
 ⟨(some 58), .mv (.t 62), none⟩,
 ⟨(some 63), .ext (.t 58) 0, none⟩,
 ⟨(some 64), .ext (.t 58) 1, none⟩,
 ⟨none, .st 5 (.t 12) (.t 63), none⟩,
 ⟨none, .st 3 (.t 11) (.t 64), none⟩])
 k8_4))
 (.region [
 ⟨(some 56), .mv (.t 13), none⟩,
 ⟨(some 57), .bin .add (.t 56) (.c (.int .i64 1)), none⟩,
 ⟨(some 13), .mv (.t 57), none⟩])

def b8_6 : ACode :=
 .seq (.seq (.region [
 ⟨(some 53), .mv (.t 13), none⟩,
 ⟨(some 54), .mv (.t 3), none⟩,
 ⟨(some 55), .bin .lss (.t 53) (.t 54), none⟩])
 (.cond (.t 55)
 (.skip)
 (.exit 0)))
 k8_5

def k8_7 : ACode :=
 .cond (.t 80)
 (.seq (.region [
 ⟨(some 8), .mv (.c (.bool false)), none⟩])
 (.ret))
 (.skip)

def k8_8 : ACode :=
 .seq (.region [
 ⟨(some 84), .fld 0 (.t 15), none⟩,
 ⟨(some 85), .ld none (.t 84), none⟩,
 ⟨(some 86), .bin .eql (.t 85) (.c (.int .i64 6)), none⟩,
 ⟨(some 8), .mv (.t 86), none⟩])
 (.ret)

def k8_9 : ACode :=
 .seq (.region [
 ⟨(some 96), .fld 1 (.t 15), none⟩,
 ⟨(some 97), .ld none (.t 96), none⟩,
 ⟨(some 98), .bin .neq (.t 97) (.c (.int .u64 0)), none⟩,
 ⟨(some 99), .mv (.t 98), none⟩,
 ⟨(some 100), .fld 0 (.t 17), (some (99, true))⟩,
 ⟨(some 101), .ld none (.t 100), (some (99, true))⟩,
 ⟨(some 102), .bin .eql (.t 101) (.c (.int .i64 14)), (some (99, true))⟩,
 ⟨(some 103), .pick (.t 99) (.t 102) (.c (.bool false)), none⟩,
 ⟨(some 8), .mv (.t 103), none⟩])
 (.ret)

def k8_10 : ACode :=
 .seq (.drawn [
 (0, ⟨(some 88), .ld (some 5) (.t 14), none⟩),
 (2, ⟨(some 90), .mv (.t 2), none⟩),
 (3, ⟨(some 91), .call 50 [(.t 90)], none⟩),
 (1, ⟨(some 89), .mv (.t 1), none⟩),
 (4, ⟨(some 92), .build [.int .i64 0, .lit (.slice none 0 0), .lit (.slice none 0 0), .int .i64 0, .int .i64 0, .int .u64 0] [(0, 1, (.c (.int .i64 10))), (1, 1, (.t 91))], none⟩),
 (5, ⟨(some 93), .call 49 [(.t 88), (.t 89), (.t 92)], none⟩),
 (6, ⟨(some 87), .mv (.t 93), none⟩),
 (7, ⟨(some 94), .ext (.t 87) 0, none⟩),
 (9, ⟨(some 16), .born 0 (.new [.int .i64 0, .int .i64 0, .int .i64 0, .lit (.slice none 0 0), .lit (.slice none 0 0)]), none⟩),
 (10, ⟨(some 17), .born 1 (.new [.int .i64 0, .int .u64 0, .int .i64 0]), none⟩),
 (11, ⟨none, .st 5 (.t 16) (.t 94), none⟩),
 (8, ⟨(some 95), .ext (.t 87) 1, none⟩),
 (12, ⟨none, .st 3 (.t 17) (.t 95), none⟩)]
 [[], [], [], [2], [3], [0, 1, 4, 3], [5], [6], [6], [], [], [9, 7, 5, 0, 1, 2, 3, 4, 5, 6, 7, 9, 10], [10, 8, 11, 0, 1, 2, 3, 4, 5, 6, 7, 8, 9, 10, 11]] 2)
 k8_9

def k8_11 : ACode :=
 .seq (.seq (.region [
 ⟨(some 81), .fld 0 (.t 15), none⟩,
 ⟨(some 82), .ld none (.t 81), none⟩,
 ⟨(some 83), .bin .neq (.t 82) (.c (.int .i64 0)), none⟩])
 (.cond (.t 83)
 k8_8
 (.skip)))
 k8_10

def k8_12 : ACode :=
 .seq (.seq (.region [
 ⟨(some 77), .ld (some 5) (.t 10), none⟩,
 ⟨(some 78), .ld (some 5) (.t 12), none⟩,
 ⟨(some 79), .call 34 [(.t 77), (.t 78)], none⟩,
 ⟨(some 80), .un .not (.t 79), none⟩])
 k8_7)
 k8_11

def k8_13 : ACode :=
 .seq (.drawn [
 (0, ⟨(some 69), .ld (some 5) (.t 12), none⟩),
 (2, ⟨(some 71), .mv (.t 2), none⟩),
 (3, ⟨(some 72), .call 50 [(.t 71)], none⟩),
 (1, ⟨(some 70), .mv (.t 1), none⟩),
 (4, ⟨(some 73), .build [.int .i64 0, .lit (.slice none 0 0), .lit (.slice none 0 0), .int .i64 0, .int .i64 0, .int .u64 0] [(0, 1, (.c (.int .i64 10))), (1, 1, (.t 72))], none⟩),
 (5, ⟨(some 74), .call 49 [(.t 69), (.t 70), (.t 73)], none⟩),
 (6, ⟨(some 68), .mv (.t 74), none⟩),
 (7, ⟨(some 75), .ext (.t 68) 0, none⟩),
 (9, ⟨(some 14), .born 0 (.new [.int .i64 0, .int .i64 0, .int .i64 0, .lit (.slice none 0 0), .lit (.slice none 0 0)]), none⟩),
 (10, ⟨(some 15), .born 1 (.new [.int .i64 0, .int .u64 0, .int .i64 0]), none⟩),
 (11, ⟨none, .st 5 (.t 14) (.t 75), none⟩),
 (8, ⟨(some 76), .ext (.t 68) 1, none⟩),
 (12, ⟨none, .st 3 (.t 15) (.t 76), none⟩)]
 [[], [], [], [2], [3], [0, 1, 4, 3], [5], [6], [6], [], [], [9, 7, 5, 0, 1, 2, 3, 4, 5, 6, 7, 9, 10], [10, 8, 11, 0, 1, 2, 3, 4, 5, 6, 7, 8, 9, 10, 11]] 2)
 k8_12

def k8_14 : ACode :=
 .seq (.seq (.region [
 ⟨(some 13), .mv (.c (.int .i64 0)), none⟩])
 (.block 0 (
 .loop b8_6)))
 k8_13

def k8_15 : ACode :=
 .seq (.region [
 ⟨(some 52), .ld (some 5) (.t 10), none⟩,
 ⟨(some 12), .new [.int .i64 0, .int .i64 0, .int .i64 0, .lit (.slice none 0 0), .lit (.slice none 0 0)], none⟩,
 ⟨none, .st 5 (.t 12) (.t 52), none⟩])
 k8_14

def k8_16 : ACode :=
 .seq (.seq (.region [
 ⟨(some 46), .fld 0 (.t 11), none⟩,
 ⟨(some 47), .ld none (.t 46), none⟩,
 ⟨(some 48), .bin .neq (.t 47) (.c (.int .i64 0)), none⟩])
 (.cond (.t 48)
 k8_2
 (.skip)))
 k8_15

def k8_17 : ACode :=
 .seq (.region [
 ⟨(some 40), .ld (some 5) (.t 4), none⟩,
 ⟨(some 41), .mv (.t 1), none⟩,
 ⟨(some 42), .ld (some 6) (.t 9), none⟩,
 ⟨(some 43), .call 49 [(.t 40), (.t 41), (.t 42)], none⟩,
 ⟨(some 39), .mv (.t 43), none⟩,
 ⟨(some 44), .ext (.t 39) 0, none⟩,
 ⟨(some 45), .ext (.t 39) 1, none⟩,
 ⟨(some 10), .new [.int .i64 0, .int .i64 0, .int .i64 0, .lit (.slice none 0 0), .lit (.slice none 0 0)], none⟩,
 ⟨(some 11), .new [.int .i64 0, .int .u64 0, .int .i64 0], none⟩,
 ⟨none, .st 5 (.t 10) (.t 44), none⟩,
 ⟨none, .st 3 (.t 11) (.t 45), none⟩])
 k8_16

def k8_18 : ACode :=
 .seq (.seq (.region [
 ⟨(some 23), .ld (some 5) (.t 4), none⟩,
 ⟨(some 24), .ld (some 6) (.t 9), none⟩,
 ⟨(some 25), .call 52 [(.t 23), (.t 24)], none⟩,
 ⟨(some 26), .mv (.t 25), none⟩,
 ⟨(some 27), .ld (some 5) (.t 4), (some (26, false))⟩,
 ⟨(some 28), .call 26 [(.t 27)], (some (26, false))⟩,
 ⟨(some 29), .un .not (.t 28), (some (26, false))⟩,
 ⟨(some 30), .pick (.t 26) (.c (.bool true)) (.t 29), none⟩,
 ⟨(some 31), .mv (.t 30), none⟩,
 ⟨(some 32), .mv (.t 3), (some (31, false))⟩,
 ⟨(some 33), .bin .lss (.t 32) (.c (.int .i64 1)), (some (31, false))⟩,
 ⟨(some 34), .pick (.t 31) (.c (.bool true)) (.t 33), none⟩,
 ⟨(some 35), .mv (.t 34), none⟩,
 ⟨(some 36), .mv (.t 3), (some (35, false))⟩,
 ⟨(some 37), .bin .gtr (.t 36) (.c (.int .i64 5)), (some (35, false))⟩,
 ⟨(some 38), .pick (.t 35) (.c (.bool true)) (.t 37), none⟩])
 k8_1)
 k8_17

def k8_19 : ACode :=
 .seq (.region [
 ⟨(some 20), .mv (.t 2), none⟩,
 ⟨(some 21), .call 50 [(.t 20)], none⟩,
 ⟨(some 22), .build [.int .i64 0, .lit (.slice none 0 0), .lit (.slice none 0 0), .int .i64 0, .int .i64 0, .int .u64 0] [(0, 1, (.c (.int .i64 9))), (1, 1, (.t 21))], none⟩,
 ⟨(some 9), .new [.int .i64 0, .lit (.slice none 0 0), .lit (.slice none 0 0), .int .i64 0, .int .i64 0, .int .u64 0], none⟩,
 ⟨none, .st 6 (.t 9) (.t 22), none⟩])
 k8_18

def k8_20 : ACode :=
 .seq (.seq (.region [
 ⟨(some 18), .call 47 [], none⟩,
 ⟨(some 19), .un .not (.t 18), none⟩])
 k8_0)
 k8_19

def c8 : ACode :=
 .seq (.region [
 ⟨(some 4), .box (.t 0), none⟩,
 ⟨(some 8), .mv (.c (.bool false)), none⟩])
 k8_20
theorem ok8 : fnOk Tryz.prog 8 c8 104 [.t 8] = true := by kernel_rfl

def k47_0 : ACode :=
 .seq (.drawn [
 (0, ⟨(some 21), .ld (some 3) (.t 2), none⟩),
 (1, ⟨(some 22), .build [.int .i64 0, .int .u64 0, .int .i64 0] [], none⟩),
 (2, ⟨(some 23), .eqs false [0, 0, 0] (.t 21) (.t 22), none⟩),
 (3, ⟨(some 24), .mv (.t 23), none⟩),
 (4, ⟨(some 25), .ld (some 3) (.t 4), (some (24, true))⟩),
 (5, ⟨(some 26), .build [.int .i64 0, .int .u64 0, .int .i64 0] [(1, 1, (.c (.int .u64 8)))], (some (24, true))⟩),
 (6, ⟨(some 27), .eqs false [0, 0, 0] (.t 25) (.t 26), (some (24, true))⟩),
 (7, ⟨(some 28), .pick (.t 24) (.t 27) (.c (.bool false)), none⟩),
 (8, ⟨(some 29), .mv (.t 28), none⟩),
 (9, ⟨(some 30), .ld (some 5) (.t 3), (some (29, true))⟩),
 (10, ⟨(some 31), .call 48 [], (some (29, true))⟩),
 (11, ⟨(some 32), .call 34 [(.t 30), (.t 31)], (some (29, true))⟩),
 (12, ⟨(some 33), .pick (.t 29) (.t 32) (.c (.bool false)), none⟩),
 (13, ⟨(some 34), .mv (.t 33), none⟩),
 (14, ⟨(some 35), .ld (some 5) (.t 1), (some (34, true))⟩),
 (15, ⟨(some 36), .call 26 [(.t 35)], (some (34, true))⟩),
 (16, ⟨(some 37), .pick (.t 34) (.t 36) (.c (.bool false)), none⟩),
 (17, ⟨(some 0), .mv (.t 37), none⟩)]
 [[], [], [0, 1], [2], [3], [3], [4, 5, 3], [3, 6], [7, 3], [8], [8, 8], [9, 10, 10, 8], [8, 11], [12, 11], [13], [14, 13, 13], [13, 15], [16, 15, 0, 1, 2, 3, 4, 5, 6, 7, 8, 9, 10, 11, 12, 13, 14, 15, 16]] 0)
 (.ret)

def k47_1 : ACode :=
 .seq (.drawn [
 (0, ⟨(some 14), .ld (some 5) (.t 1), none⟩),
 (1, ⟨(some 15), .born 0 (.bsl 1 1 [.int .i64 0] [(0, (.c (.int .i64 3)))]), none⟩),
 (2, ⟨(some 16), .call 50 [(.t 15)], none⟩),
 (3, ⟨(some 17), .build [.int .i64 0, .lit (.slice none 0 0), .lit (.slice none 0 0), .int .i64 0, .int .i64 0, .int .u64 0] [(0, 1, (.c (.int .i64 10))), (1, 1, (.t 16))], none⟩),
 (4, ⟨(some 18), .call 49 [(.t 14), (.c (.int .i64 0)), (.t 17)], none⟩),
 (5, ⟨(some 13), .mv (.t 18), none⟩),
 (6, ⟨(some 19), .ext (.t 13) 0, none⟩),
 (8, ⟨(some 3), .born 1 (.new [.int .i64 0, .int .i64 0, .int .i64 0, .lit (.slice none 0 0), .lit (.slice none 0 0)]), none⟩),
 (9, ⟨(some 4), .born 2 (.new [.int .i64 0, .int .u64 0, .int .i64 0]), none⟩),
 (10, ⟨none, .st 5 (.t 3) (.t 19), none⟩),
 (7, ⟨(some 20), .ext (.t 13) 1, none⟩),
 (11, ⟨none, .st 3 (.t 4) (.t 20), none⟩)]
 [[], [], [1], [2], [0, 3, 2], [4], [5], [5], [], [], [8, 6, 4, 0, 1, 2, 3, 4, 5, 6, 8, 9], [9, 7, 10, 0, 1, 2, 3, 4, 5, 6, 7, 8, 9, 10]] 3)
 k47_0

def k47_2 : ACode :=
 .seq (.region [
 ⟨(some 6), .call 48 [], none⟩,
 ⟨(some 7), .bsl 1 1 [.int .i64 0] [(0, (.c (.int .i64 4)))], none⟩,
 ⟨(some 8), .call 50 [(.t 7)], none⟩,
 ⟨(some 9), .build [.int .i64 0, .lit (.slice none 0 0), .lit (.slice none 0 0), .int .i64 0, .int .i64 0, .int .u64 0] [(0, 1, (.c (.int .i64 9))), (1, 1, (.t 8))], none⟩,
 ⟨(some 10), .call 49 [(.t 6), (.c (.int .i64 0)), (.t 9)], none⟩,
 ⟨(some 5), .mv (.t 10), none⟩,
 ⟨(some 11), .ext (.t 5) 0, none⟩,
 ⟨(some 12), .ext (.t 5) 1, none⟩,
 ⟨(some 1), .new [.int .i64 0, .int .i64 0, .int .i64 0, .lit (.slice none 0 0), .lit (.slice none 0 0)], none⟩,
 ⟨(some 2), .new [.int .i64 0, .int .u64 0, .int .i64 0], none⟩,
 ⟨none, .st 5 (.t 1) (.t 11), none⟩,
 ⟨none, .st 3 (.t 2) (.t 12), none⟩])
 k47_1

def c47 : ACode :=
 .seq (.region [
 ⟨(some 0), .mv (.c (.bool false)), none⟩])
 k47_2
theorem ok47 : fnOk Tryz.prog 47 c47 38 [.t 0] = true := by kernel_rfl

def k48_0 : ACode :=
 .seq (.drawn [
 (0, ⟨(some 34), .ld (some 5) (.t 1), none⟩),
 (1, ⟨(some 35), .born 0 (.bsl 1 1 [.int .i64 0] [(0, (.c (.int .i64 3)))]), none⟩),
 (2, ⟨(some 36), .call 50 [(.t 35)], none⟩),
 (3, ⟨(some 37), .born 1 (.bsl 1 1 [.int .i64 0] [(0, (.c (.int .i64 6)))]), none⟩),
 (4, ⟨(some 38), .call 50 [(.t 37)], none⟩),
 (5, ⟨(some 39), .build [.int .i64 0, .lit (.slice none 0 0), .lit (.slice none 0 0), .int .i64 0, .int .i64 0, .int .u64 0] [(0, 1, (.c (.int .i64 2))), (1, 1, (.t 36)), (2, 1, (.t 38)), (3, 1, (.c (.int .i64 2)))], none⟩),
 (6, ⟨(some 40), .call 43 [(.t 34), (.c (.int .i64 0)), (.t 39)], none⟩),
 (7, ⟨(some 33), .mv (.t 40), none⟩),
 (8, ⟨(some 41), .ext (.t 33) 0, none⟩),
 (10, ⟨none, .st 5 (.t 1) (.t 41), none⟩),
 (9, ⟨(some 42), .ext (.t 33) 1, none⟩)]
 [[], [], [1], [], [3, 2], [2, 4], [0, 5, 4], [6], [7], [7], [8, 6, 0, 1, 2, 3, 4, 5, 6, 7, 8]] 2)
 (.seq (.region [
 ⟨(some 43), .ld (some 5) (.t 1), none⟩,
 ⟨none, .st 5 (.t 0) (.t 43), none⟩])
 (.ret))

def k48_1 : ACode :=
 .seq (.drawn [
 (0, ⟨(some 24), .ld (some 5) (.t 1), none⟩),
 (1, ⟨(some 25), .born 0 (.bsl 1 1 [.int .i64 0] [(0, (.c (.int .i64 3)))]), none⟩),
 (2, ⟨(some 26), .call 50 [(.t 25)], none⟩),
 (3, ⟨(some 27), .born 1 (.bsl 1 1 [.int .i64 0] [(0, (.c (.int .i64 5)))]), none⟩),
 (4, ⟨(some 28), .call 50 [(.t 27)], none⟩),
 (5, ⟨(some 29), .build [.int .i64 0, .lit (.slice none 0 0), .lit (.slice none 0 0), .int .i64 0, .int .i64 0, .int .u64 0] [(0, 1, (.c (.int .i64 2))), (1, 1, (.t 26)), (2, 1, (.t 28)), (3, 1, (.c (.int .i64 1)))], none⟩),
 (6, ⟨(some 30), .call 43 [(.t 24), (.c (.int .i64 0)), (.t 29)], none⟩),
 (7, ⟨(some 23), .mv (.t 30), none⟩),
 (8, ⟨(some 31), .ext (.t 23) 0, none⟩),
 (10, ⟨none, .st 5 (.t 1) (.t 31), none⟩),
 (9, ⟨(some 32), .ext (.t 23) 1, none⟩)]
 [[], [], [1], [], [3, 2], [2, 4], [0, 5, 4], [6], [7], [7], [8, 6, 0, 1, 2, 3, 4, 5, 6, 7, 8]] 2)
 k48_0

def k48_2 : ACode :=
 .seq (.drawn [
 (0, ⟨(some 14), .ld (some 5) (.t 1), none⟩),
 (1, ⟨(some 15), .born 0 (.bsl 1 1 [.int .i64 0] [(0, (.c (.int .i64 3)))]), none⟩),
 (2, ⟨(some 16), .call 50 [(.t 15)], none⟩),
 (3, ⟨(some 17), .born 1 (.bsl 1 1 [.int .i64 0] [(0, (.c (.int .i64 4)))]), none⟩),
 (4, ⟨(some 18), .call 50 [(.t 17)], none⟩),
 (5, ⟨(some 19), .build [.int .i64 0, .lit (.slice none 0 0), .lit (.slice none 0 0), .int .i64 0, .int .i64 0, .int .u64 0] [(0, 1, (.c (.int .i64 3))), (1, 1, (.t 16)), (2, 1, (.t 18)), (3, 1, (.c (.int .i64 7))), (4, 1, (.c (.int .i64 67)))], none⟩),
 (6, ⟨(some 20), .call 43 [(.t 14), (.c (.int .i64 0)), (.t 19)], none⟩),
 (7, ⟨(some 13), .mv (.t 20), none⟩),
 (8, ⟨(some 21), .ext (.t 13) 0, none⟩),
 (10, ⟨none, .st 5 (.t 1) (.t 21), none⟩),
 (9, ⟨(some 22), .ext (.t 13) 1, none⟩)]
 [[], [], [1], [], [3, 2], [2, 4], [0, 5, 4], [6], [7], [7], [8, 6, 0, 1, 2, 3, 4, 5, 6, 7, 8]] 2)
 k48_1

def k48_3 : ACode :=
 .seq (.region [
 ⟨(some 4), .call 130 [], none⟩,
 ⟨(some 5), .bsl 1 1 [.int .i64 0] [(0, (.c (.int .i64 0)))], none⟩,
 ⟨(some 6), .call 50 [(.t 5)], none⟩,
 ⟨(some 7), .bsl 1 1 [.int .i64 0] [(0, (.c (.int .i64 3)))], none⟩,
 ⟨(some 8), .call 50 [(.t 7)], none⟩,
 ⟨(some 9), .build [.int .i64 0, .lit (.slice none 0 0), .lit (.slice none 0 0), .int .i64 0, .int .i64 0, .int .u64 0] [(0, 1, (.c (.int .i64 1))), (1, 1, (.t 6)), (2, 1, (.t 8)), (3, 1, (.c (.int .i64 4)))], none⟩,
 ⟨(some 10), .call 37 [(.t 4), (.c (.int .i64 0)), (.t 9)], none⟩,
 ⟨(some 3), .mv (.t 10), none⟩,
 ⟨(some 11), .ext (.t 3) 0, none⟩,
 ⟨(some 12), .ext (.t 3) 1, none⟩,
 ⟨(some 1), .new [.int .i64 0, .int .i64 0, .int .i64 0, .lit (.slice none 0 0), .lit (.slice none 0 0)], none⟩,
 ⟨(some 2), .new [.int .i64 0, .int .u64 0, .int .i64 0], none⟩,
 ⟨none, .st 5 (.t 1) (.t 11), none⟩,
 ⟨none, .st 3 (.t 2) (.t 12), none⟩])
 k48_2

def c48 : ACode :=
 .seq (.region [
 ⟨(some 0), .new [.int .i64 0, .int .i64 0, .int .i64 0, .lit (.slice none 0 0), .lit (.slice none 0 0)], none⟩])
 k48_3
theorem ok48 : fnOk Tryz.prog 48 c48 44 [.c 0 (some 5)] = true := by kernel_rfl

def k50_0 : ACode :=
 .seq (.region [
 ⟨(some 3), .mv (.t 0), none⟩,
 ⟨(some 4), .build [.lit (.slice none 0 0)] [(0, 1, (.t 3))], none⟩,
 ⟨none, .st 1 (.t 2) (.t 4), none⟩])
 (.ret)

def c50 : ACode :=
 .seq (.region [
 ⟨(some 2), .new [.lit (.slice none 0 0)], none⟩])
 k50_0
theorem ok50 : fnOk Tryz.prog 50 c50 5 [.c 2 (some 1)] = true := by kernel_rfl

def k52_0 : ACode :=
 .seq (.region [
 ⟨(some 5), .fld 3 (.t 2), none⟩,
 ⟨(some 6), .ld none (.t 5), none⟩,
 ⟨(some 7), .len false (.t 6), none⟩,
 ⟨(some 8), .bin .gtr (.t 7) (.c (.int .i64 100)), none⟩,
 ⟨(some 9), .mv (.t 8), none⟩,
 ⟨(some 10), .fld 4 (.t 2), (some (9, false))⟩,
 ⟨(some 11), .ld none (.t 10), (some (9, false))⟩,
 ⟨(some 12), .len false (.t 11), (some (9, false))⟩,
 ⟨(some 13), .bin .gtr (.t 12) (.c (.int .i64 50)), (some (9, false))⟩,
 ⟨(some 14), .pick (.t 9) (.c (.bool true)) (.t 13), none⟩,
 ⟨(some 15), .mv (.t 14), none⟩,
 ⟨(some 16), .fld 1 (.t 3), (some (15, false))⟩,
 ⟨(some 17), .fld 0 (.t 16), (some (15, false))⟩,
 ⟨(some 18), .ld none (.t 17), (some (15, false))⟩,
 ⟨(some 19), .len false (.t 18), (some (15, false))⟩,
 ⟨(some 20), .bin .gtr (.t 19) (.c (.int .i64 10)), (some (15, false))⟩,
 ⟨(some 21), .pick (.t 15) (.c (.bool true)) (.t 20), none⟩,
 ⟨(some 22), .mv (.t 21), none⟩,
 ⟨(some 23), .fld 2 (.t 3), (some (22, false))⟩,
 ⟨(some 24), .fld 0 (.t 23), (some (22, false))⟩,
 ⟨(some 25), .ld none (.t 24), (some (22, false))⟩,
 ⟨(some 26), .len false (.t 25), (some (22, false))⟩,
 ⟨(some 27), .bin .gtr (.t 26) (.c (.int .i64 10)), (some (22, false))⟩,
 ⟨(some 28), .pick (.t 22) (.c (.bool true)) (.t 27), none⟩,
 ⟨(some 4), .mv (.t 28), none⟩])
 (.ret)

def c52 : ACode :=
 .seq (.region [
 ⟨(some 2), .box (.t 0), none⟩,
 ⟨(some 3), .box (.t 1), none⟩,
 ⟨(some 4), .mv (.c (.bool false)), none⟩])
 k52_0
theorem ok52 : fnOk Tryz.prog 52 c52 29 [.t 4] = true := by kernel_rfl

def k130_0 : ACode :=
 .seq (.region [
 ⟨(some 4), .call 148 [], none⟩,
 ⟨(some 5), .call 87 [(.t 4), (.c (.int .i64 64))], none⟩,
 ⟨(some 3), .mv (.t 5), none⟩,
 ⟨(some 6), .ext (.t 3) 0, none⟩,
 ⟨(some 7), .ext (.t 3) 1, none⟩,
 ⟨(some 1), .new [.int .i64 0, .int .i64 0, .int .i64 0, .lit (.slice none 0 0), .lit (.slice none 0 0)], none⟩,
 ⟨none, .st 5 (.t 1) (.t 6), none⟩,
 ⟨(some 2), .mv (.t 7), none⟩])
 (.seq (.region [
 ⟨(some 8), .ld (some 5) (.t 1), none⟩,
 ⟨none, .st 5 (.t 0) (.t 8), none⟩])
 (.ret))

def c130 : ACode :=
 .seq (.region [
 ⟨(some 0), .new [.int .i64 0, .int .i64 0, .int .i64 0, .lit (.slice none 0 0), .lit (.slice none 0 0)], none⟩])
 k130_0
theorem ok130 : fnOk Tryz.prog 130 c130 9 [.c 0 (some 5)] = true := by kernel_rfl

end Go.Proofs.YtipigjckoejfpaaGreat.Ax
