/- Texts put behind one another: AxCOps, AxCLaw21, AxCLaw17. Conditions: none. -/
import Derived.Test.YtipigjckoejfpaaGreatAxEnterZ
import Derived.Test.YtipigjckoejfpaaGreatProg
import Derived.KernelRfl
set_option linter.unusedSimpArgs false
set_option linter.unusedVariables false
/- The code of functions of the program, for our abstract machine; each is tied to the program by a closed test. Written by gen.py. Conditions: none. -/
namespace Go.Proofs.YtipigjckoejfpaaGreat.Ax
open Go Go.Ax

def k58_0 : ACode :=
 .seq (.region [
 ⟨(some 32), .ld (some 5) (.t 3), none⟩,
 ⟨(some 33), .build [.int .i64 0, .int .u64 0, .int .i64 0] [(0, 1, (.c (.int .i64 1)))], none⟩,
 ⟨none, .st 5 (.t 6) (.t 32), none⟩,
 ⟨none, .st 3 (.t 7) (.t 33), none⟩])
 (.ret)

def k58_1 : ACode :=
 .seq (.region [
 ⟨(some 45), .ld (some 5) (.t 3), none⟩,
 ⟨(some 46), .mv (.t 10), none⟩,
 ⟨(some 47), .build [.int .i64 0, .int .u64 0, .int .i64 0] [(0, 1, (.t 46))], none⟩,
 ⟨none, .st 5 (.t 6) (.t 45), none⟩,
 ⟨none, .st 3 (.t 7) (.t 47), none⟩])
 (.ret)

def k58_2 : ACode :=
 .seq (.drawn [
 (0, ⟨(some 56), .ld (some 5) (.t 3), none⟩),
 (2, ⟨(some 58), .ld (some 5) (.t 3), none⟩),
 (3, ⟨(some 59), .call 100 [(.t 58)], none⟩),
 (4, ⟨(some 60), .mv (.t 8), none⟩),
 (5, ⟨(some 61), .call 137 [(.t 59), (.t 60)], none⟩),
 (7, ⟨none, .st 5 (.t 6) (.t 56), none⟩),
 (1, ⟨(some 57), .mv (.t 11), none⟩),
 (6, ⟨(some 62), .build [.int .i64 0, .int .u64 0, .int .i64 0] [(1, 1, (.t 57)), (2, 1, (.t 61))], none⟩),
 (8, ⟨none, .st 3 (.t 7) (.t 62), none⟩)]
 [[], [], [], [2], [], [3, 4, 3], [1, 5], [0, 5, 0], [6, 7, 0, 1, 2, 3, 4, 5, 6, 7]] 0)
 (.ret)

def k58_3 : ACode :=
 .seq (.region [
 ⟨(some 52), .ld (some 4) (.t 9), none⟩,
 ⟨(some 53), .call 60 [(.t 52)], none⟩,
 ⟨(some 51), .mv (.t 53), none⟩,
 ⟨(some 54), .ext (.t 51) 0, none⟩,
 ⟨(some 55), .ext (.t 51) 1, none⟩,
 ⟨(some 11), .mv (.t 54), none⟩,
 ⟨(some 12), .mv (.t 55), none⟩])
 k58_2

def k58_4 : ACode :=
 .seq (.region [
 ⟨(some 70), .ld (some 5) (.t 3), none⟩,
 ⟨(some 71), .build [.int .i64 0, .int .u64 0, .int .i64 0] [(0, 1, (.c (.int .i64 7)))], none⟩,
 ⟨none, .st 5 (.t 6) (.t 70), none⟩,
 ⟨none, .st 3 (.t 7) (.t 71), none⟩])
 (.ret)

def k58_5 : ACode :=
 .seq (.region [
 ⟨(some 78), .ld (some 5) (.t 3), none⟩,
 ⟨(some 79), .build [.int .i64 0, .int .u64 0, .int .i64 0] [(0, 1, (.c (.int .i64 6)))], none⟩,
 ⟨none, .st 5 (.t 6) (.t 78), none⟩,
 ⟨none, .st 3 (.t 7) (.t 79), none⟩])
 (.ret)

def k58_6 : ACode :=
 .seq (.drawn [
 (0, ⟨(some 84), .ld (some 5) (.t 3), none⟩),
 (1, ⟨(some 85), .fld 4 (.t 3), none⟩),
 (2, ⟨(some 86), .ld none (.t 85), none⟩),
 (3, ⟨(some 87), .fld 1 (.t 9), none⟩),
 (4, ⟨(some 88), .ld none (.t 87), none⟩),
 (5, ⟨(some 89), .fld 3 (.t 5), none⟩),
 (6, ⟨(some 90), .ld none (.t 89), none⟩),
 (7, ⟨(some 91), .ixs 13 (.t 86) (.t 88), none⟩),
 (8, ⟨(some 92), .fld 9 (.t 91), none⟩),
 (9, ⟨(some 93), .ixa 4 1 (.t 92) (.t 90), none⟩),
 (10, ⟨(some 94), .ld none (.t 93), none⟩),
 (12, ⟨none, .st 5 (.t 6) (.t 84), none⟩),
 (11, ⟨(some 95), .build [.int .i64 0, .int .u64 0, .int .i64 0] [(1, 1, (.t 94))], none⟩),
 (13, ⟨none, .st 3 (.t 7) (.t 95), none⟩)]
 [[], [], [1], [], [3], [], [5], [2, 4], [7], [8, 6], [9], [10], [0, 0], [11, 12, 0, 1, 2, 3, 4, 5, 6, 7, 8, 9, 10, 11, 12]] 0)
 (.ret)

def k58_7 : ACode :=
 .seq (.region [
 ⟨(some 81), .fld 0 (.t 5), none⟩,
 ⟨(some 82), .ld none (.t 81), none⟩,
 ⟨(some 83), .bin .eql (.t 82) (.c (.int .i64 12)), none⟩,
 ⟨(some 80), .mv (.t 83), none⟩])
 (.cond (.t 80)
 k58_6
 (.skip))

def k58_8 : ACode :=
 .seq (.region [
 ⟨(some 73), .mv (.t 13), none⟩,
 ⟨(some 74), .fld 2 (.t 9), none⟩,
 ⟨(some 75), .ld none (.t 74), none⟩,
 ⟨(some 76), .call 104 [(.t 73), (.t 75)], none⟩,
 ⟨(some 77), .un .not (.t 76), none⟩,
 ⟨(some 72), .mv (.t 77), none⟩])
 (.cond (.t 72)
 k58_5
 k58_7)

def k58_9 : ACode :=
 .seq (.region [
 ⟨(some 109), .ld (some 5) (.t 3), none⟩,
 ⟨(some 110), .build [.int .i64 0, .int .u64 0, .int .i64 0] [], none⟩,
 ⟨none, .st 5 (.t 6) (.t 109), none⟩,
 ⟨none, .st 3 (.t 7) (.t 110), none⟩])
 (.ret)

def k58_10 : ACode :=
 .seq (.drawn [
 (0, ⟨(some 98), .fld 4 (.t 3), none⟩),
 (1, ⟨(some 99), .ld none (.t 98), none⟩),
 (2, ⟨(some 100), .fld 1 (.t 9), none⟩),
 (3, ⟨(some 101), .ld none (.t 100), none⟩),
 (4, ⟨(some 102), .fld 3 (.t 5), none⟩),
 (5, ⟨(some 103), .ld none (.t 102), none⟩),
 (6, ⟨(some 104), .fld 5 (.t 5), none⟩),
 (7, ⟨(some 105), .ld none (.t 104), none⟩),
 (8, ⟨(some 106), .ixs 13 (.t 99) (.t 101), none⟩),
 (9, ⟨(some 107), .fld 9 (.t 106), none⟩),
 (10, ⟨(some 108), .ixa 4 1 (.t 107) (.t 103), none⟩),
 (11, ⟨none, .st 1 (.t 108) (.t 105), none⟩)]
 [[], [0], [], [2], [], [4], [], [6], [1, 3], [8], [9, 5, 0, 1, 2, 3, 4, 5, 6, 7], [10, 7, 0, 1, 2, 3, 4, 5, 6, 7]] 0)
 k58_9

def k58_11 : ACode :=
 .seq (.region [
 ⟨(some 96), .ld (some 5) (.t 3), none⟩,
 ⟨(some 97), .call 27 [(.t 96)], none⟩,
 ⟨none, .st 5 (.t 3) (.t 97), none⟩])
 k58_10

def k58_12 : ACode :=
 .seq (.block 0 (
 .seq (.region [
 ⟨(some 67), .fld 0 (.t 9), none⟩,
 ⟨(some 68), .ld none (.t 67), none⟩,
 ⟨(some 69), .bin .neq (.t 68) (.c (.int .i64 5)), none⟩,
 ⟨(some 66), .mv (.t 69), none⟩])
 (.cond (.t 66)
 k58_4
 k58_8)))
 k58_11

def k58_13 : ACode :=
 .seq (.seq (.region [
 ⟨(some 63), .fld 0 (.t 5), none⟩,
 ⟨(some 64), .ld none (.t 63), none⟩,
 ⟨(some 65), .bin .eql (.t 64) (.c (.int .i64 12)), none⟩])
 (.cond (.t 65)
 (.region [
 ⟨(some 13), .mv (.c (.int .i64 1)), none⟩])
 (.skip)))
 k58_12

def k58_14 : ACode :=
 .seq (.seq (.region [
 ⟨(some 48), .fld 0 (.t 5), none⟩,
 ⟨(some 49), .ld none (.t 48), none⟩,
 ⟨(some 50), .bin .eql (.t 49) (.c (.int .i64 13)), none⟩])
 (.cond (.t 50)
 k58_3
 (.skip)))
 (.seq (.region [
 ⟨(some 13), .mv (.c (.int .i64 2)), none⟩])
 k58_13)

def k58_15 : ACode :=
 .seq (.seq (.region [
 ⟨(some 43), .mv (.t 10), none⟩,
 ⟨(some 44), .bin .neq (.t 43) (.c (.int .i64 0)), none⟩])
 (.cond (.t 44)
 k58_1
 (.skip)))
 k58_14

def k58_16 : ACode :=
 .seq (.region [
 ⟨(some 35), .ld (some 5) (.t 3), none⟩,
 ⟨(some 36), .mv (.t 1), none⟩,
 ⟨(some 37), .fld 1 (.t 5), none⟩,
 ⟨(some 38), .ld (some 1) (.t 37), none⟩,
 ⟨(some 39), .call 65 [(.t 35), (.t 36), (.t 38)], none⟩,
 ⟨(some 34), .mv (.t 39), none⟩,
 ⟨(some 40), .ext (.t 34) 0, none⟩,
 ⟨(some 41), .ext (.t 34) 1, none⟩,
 ⟨(some 42), .ext (.t 34) 2, none⟩,
 ⟨(some 9), .new [.int .i64 0, .int .i64 0, .int .i64 0, .int .i64 0], none⟩,
 ⟨(some 8), .mv (.t 40), none⟩,
 ⟨none, .st 4 (.t 9) (.t 41), none⟩,
 ⟨(some 10), .mv (.t 42), none⟩])
 k58_15

def k58_17 : ACode :=
 .seq (.seq (.region [
 ⟨(some 14), .ld (some 6) (.t 5), none⟩,
 ⟨(some 15), .call 79 [(.t 14)], none⟩,
 ⟨(some 16), .un .not (.t 15), none⟩,
 ⟨(some 17), .mv (.t 16), none⟩,
 ⟨(some 18), .fld 0 (.t 5), (some (17, false))⟩,
 ⟨(some 19), .ld none (.t 18), (some (17, false))⟩,
 ⟨(some 20), .bin .neq (.t 19) (.c (.int .i64 11)), (some (17, false))⟩,
 ⟨(some 21), .mv (.t 20), (some (17, false))⟩,
 ⟨(some 22), .fld 0 (.t 5), (some (21, true))⟩,
 ⟨(some 23), .ld none (.t 22), (some (21, true))⟩,
 ⟨(some 24), .bin .neq (.t 23) (.c (.int .i64 12)), (some (21, true))⟩,
 ⟨(some 25), .pick (.t 21) (.t 24) (.c (.bool false)), (some (17, false))⟩,
 ⟨(some 26), .mv (.t 25), (some (17, false))⟩,
 ⟨(some 27), .fld 0 (.t 5), (some (26, true))⟩,
 ⟨(some 28), .ld none (.t 27), (some (26, true))⟩,
 ⟨(some 29), .bin .neq (.t 28) (.c (.int .i64 13)), (some (26, true))⟩,
 ⟨(some 30), .pick (.t 26) (.t 29) (.c (.bool false)), (some (17, false))⟩,
 ⟨(some 31), .pick (.t 17) (.c (.bool true)) (.t 30), none⟩])
 (.cond (.t 31)
 k58_0
 (.skip)))
 k58_16

def c58 : ACode :=
 .seq (.region [
 ⟨(some 3), .box (.t 0), none⟩,
 ⟨(some 5), .box (.t 2), none⟩,
 ⟨(some 6), .new [.int .i64 0, .int .i64 0, .int .i64 0, .lit (.slice none 0 0), .lit (.slice none 0 0)], none⟩,
 ⟨(some 7), .new [.int .i64 0, .int .u64 0, .int .i64 0], none⟩])
 k58_17
theorem ok58 : fnOk Tryz.prog 58 c58 111 [.c 6 (some 5), .c 7 (some 3)] = true := by kernel_rfl

def k69_0 : ACode :=
 .seq (.region [
 ⟨(some 18), .ld (some 5) (.t 2), none⟩,
 ⟨none, .st 5 (.t 4) (.t 18), none⟩,
 ⟨(some 5), .mv (.c (.int .i64 0)), none⟩])
 (.ret)

def k69_1 : ACode :=
 .cond (.t 27)
 (.region [
 ⟨(some 28), .mv (.t 6), none⟩,
 ⟨(some 29), .bin .add (.t 28) (.c (.int .i64 1)), none⟩,
 ⟨(some 6), .mv (.t 29), none⟩])
 (.skip)

def k69_2 : ACode :=
 .seq (.region [
 ⟨(some 25), .ld (some 5) (.t 2), none⟩,
 ⟨(some 26), .mv (.t 8), none⟩,
 ⟨(some 27), .call 145 [(.t 25), (.t 26)], none⟩])
 k69_1

def k69_3 : ACode :=
 .seq (.block 1 (
 .seq (.region [
 ⟨(some 23), .ixs 1 (.t 19) (.t 21), none⟩,
 ⟨(some 24), .ld none (.t 23), none⟩,
 ⟨(some 8), .mv (.t 24), none⟩])
 k69_2))
 (.region [
 ⟨(some 30), .bin .add (.t 21) (.c (.int .i64 1)), none⟩,
 ⟨(some 21), .mv (.t 30), none⟩])

def b69_4 : ACode :=
 .seq (.region [
 ⟨(some 22), .bin .lss (.t 21) (.t 20), none⟩])
 (.seq (.cond (.t 22)
 (.skip)
 (.exit 0))
 k69_3)

def k69_5 : ACode :=
 .region [
 ⟨(some 47), .mv (.t 12), none⟩,
 ⟨(some 48), .mv (.t 47), none⟩,
 ⟨(some 49), .mv (.t 9), (some (48, false))⟩,
 ⟨(some 50), .pick (.t 48) (.c (.bool true)) (.t 49), none⟩,
 ⟨(some 9), .mv (.t 50), none⟩]

def k69_6 : ACode :=
 .seq (.region [
 ⟨(some 44), .mv (.t 6), none⟩,
 ⟨(some 45), .mv (.t 11), none⟩,
 ⟨(some 46), .bin .add (.t 44) (.t 45), none⟩,
 ⟨(some 6), .mv (.t 46), none⟩])
 k69_5

def k69_7 : ACode :=
 .seq (.region [
 ⟨(some 39), .ld (some 5) (.t 2), none⟩,
 ⟨(some 40), .mv (.t 10), none⟩,
 ⟨(some 41), .call 146 [(.t 39), (.t 40)], none⟩,
 ⟨(some 38), .mv (.t 41), none⟩,
 ⟨(some 42), .ext (.t 38) 0, none⟩,
 ⟨(some 43), .ext (.t 38) 1, none⟩,
 ⟨(some 11), .mv (.t 42), none⟩,
 ⟨(some 12), .mv (.t 43), none⟩])
 k69_6

def k69_8 : ACode :=
 .seq (.block 5 (
 .seq (.region [
 ⟨(some 37), .mv (.t 35), none⟩,
 ⟨(some 10), .mv (.t 37), none⟩])
 k69_7))
 (.region [
 ⟨(some 51), .bin .add (.t 35) (.c (.int .i64 1)), none⟩,
 ⟨(some 35), .mv (.t 51), none⟩])

def b69_9 : ACode :=
 .seq (.region [
 ⟨(some 36), .bin .lss (.t 35) (.t 34), none⟩])
 (.seq (.cond (.t 36)
 (.skip)
 (.exit 4))
 k69_8)

def k69_10 : ACode :=
 .seq (.region [
 ⟨(some 32), .fld 4 (.t 2), none⟩,
 ⟨(some 33), .ld none (.t 32), none⟩,
 ⟨(some 34), .len false (.t 33), none⟩,
 ⟨(some 35), .mv (.c (.int .i64 0)), none⟩])
 (.block 4 (
 .loop b69_9))

def b69_11 : ACode :=
 .seq (.seq (.region [
 ⟨(some 31), .mv (.t 9), none⟩])
 (.cond (.t 31)
 (.skip)
 (.exit 2)))
 (.block 3 (
 .seq (.region [
 ⟨(some 9), .mv (.c (.bool false)), none⟩])
 k69_10))

def k69_12 : ACode :=
 .seq (.region [
 ⟨(some 52), .ld (some 5) (.t 2), none⟩,
 ⟨(some 53), .mv (.t 6), none⟩,
 ⟨none, .st 5 (.t 4) (.t 52), none⟩,
 ⟨(some 5), .mv (.t 53), none⟩])
 (.ret)

def k69_13 : ACode :=
 .seq (.seq (.region [
 ⟨(some 9), .mv (.c (.bool true)), none⟩])
 (.block 2 (
 .loop b69_11)))
 k69_12

def k69_14 : ACode :=
 .seq (.seq (.region [
 ⟨(some 19), .mv (.t 1), none⟩,
 ⟨(some 20), .len false (.t 19), none⟩,
 ⟨(some 21), .mv (.c (.int .i64 0)), none⟩])
 (.block 0 (
 .loop b69_4)))
 k69_13

def k69_15 : ACode :=
 .seq (.seq (.region [
 ⟨(some 15), .ld (some 5) (.t 2), none⟩,
 ⟨(some 16), .call 26 [(.t 15)], none⟩,
 ⟨(some 17), .un .not (.t 16), none⟩])
 (.cond (.t 17)
 k69_0
 (.skip)))
 (.seq (.region [
 ⟨(some 6), .mv (.c (.int .i64 0)), none⟩])
 k69_14)

def k69_16 : ACode :=
 .seq (.region [
 ⟨(some 13), .ld (some 5) (.t 2), none⟩,
 ⟨(some 14), .call 27 [(.t 13)], none⟩,
 ⟨none, .st 5 (.t 2) (.t 14), none⟩])
 k69_15

def c69 : ACode :=
 .seq (.region [
 ⟨(some 2), .box (.t 0), none⟩,
 ⟨(some 4), .new [.int .i64 0, .int .i64 0, .int .i64 0, .lit (.slice none 0 0), .lit (.slice none 0 0)], none⟩,
 ⟨(some 5), .mv (.c (.int .i64 0)), none⟩])
 k69_16
theorem ok69 : fnOk Tryz.prog 69 c69 54 [.c 4 (some 5), .t 5] = true := by kernel_rfl

def k72_0 : ACode :=
 .seq (.region [
 ⟨(some 26), .ld (some 5) (.t 3), none⟩,
 ⟨(some 27), .build [.int .i64 0, .int .u64 0, .int .i64 0] [(0, 1, (.c (.int .i64 1)))], none⟩,
 ⟨none, .st 5 (.t 6) (.t 26), none⟩,
 ⟨none, .st 3 (.t 7) (.t 27), none⟩])
 (.ret)

def k72_1 : ACode :=
 .seq (.region [
 ⟨(some 39), .ld (some 5) (.t 3), none⟩,
 ⟨(some 40), .mv (.t 10), none⟩,
 ⟨(some 41), .build [.int .i64 0, .int .u64 0, .int .i64 0] [(0, 1, (.t 40))], none⟩,
 ⟨none, .st 5 (.t 6) (.t 39), none⟩,
 ⟨none, .st 3 (.t 7) (.t 41), none⟩])
 (.ret)

def k72_2 : ACode :=
 .region [
 ⟨(some 47), .ld (some 5) (.t 3), none⟩,
 ⟨(some 48), .call 100 [(.t 47)], none⟩,
 ⟨(some 49), .mv (.t 8), none⟩,
 ⟨(some 50), .call 147 [(.t 48), (.t 49)], none⟩,
 ⟨(some 11), .mv (.t 50), none⟩]

def k72_3 : ACode :=
 .seq (.region [
 ⟨(some 57), .ld (some 5) (.t 3), none⟩,
 ⟨(some 58), .mv (.t 12), none⟩,
 ⟨(some 59), .build [.int .i64 0, .int .u64 0, .int .i64 0] [(2, 1, (.t 58))], none⟩,
 ⟨none, .st 5 (.t 6) (.t 57), none⟩,
 ⟨none, .st 3 (.t 7) (.t 59), none⟩])
 (.ret)

def k72_4 : ACode :=
 .seq (.region [
 ⟨(some 52), .ld (some 5) (.t 3), none⟩,
 ⟨(some 53), .mv (.t 11), none⟩,
 ⟨(some 54), .call 69 [(.t 52), (.t 53)], none⟩,
 ⟨(some 51), .mv (.t 54), none⟩,
 ⟨(some 55), .ext (.t 51) 0, none⟩,
 ⟨(some 56), .ext (.t 51) 1, none⟩,
 ⟨none, .st 5 (.t 3) (.t 55), none⟩,
 ⟨(some 12), .mv (.t 56), none⟩])
 k72_3

def k72_5 : ACode :=
 .seq (.seq (.region [
 ⟨(some 44), .fld 0 (.t 5), none⟩,
 ⟨(some 45), .ld none (.t 44), none⟩,
 ⟨(some 46), .bin .eql (.t 45) (.c (.int .i64 6)), none⟩])
 (.cond (.t 46)
 k72_2
 (.skip)))
 k72_4

def k72_6 : ACode :=
 .seq (.region [
 ⟨(some 42), .mv (.t 8), none⟩,
 ⟨(some 43), .bsl 1 1 [.int .i64 0] [(0, (.t 42))], none⟩,
 ⟨(some 11), .mv (.t 43), none⟩])
 k72_5

def k72_7 : ACode :=
 .seq (.seq (.region [
 ⟨(some 37), .mv (.t 10), none⟩,
 ⟨(some 38), .bin .neq (.t 37) (.c (.int .i64 0)), none⟩])
 (.cond (.t 38)
 k72_1
 (.skip)))
 k72_6

def k72_8 : ACode :=
 .seq (.region [
 ⟨(some 29), .ld (some 5) (.t 3), none⟩,
 ⟨(some 30), .mv (.t 1), none⟩,
 ⟨(some 31), .fld 1 (.t 5), none⟩,
 ⟨(some 32), .ld (some 1) (.t 31), none⟩,
 ⟨(some 33), .call 65 [(.t 29), (.t 30), (.t 32)], none⟩,
 ⟨(some 28), .mv (.t 33), none⟩,
 ⟨(some 34), .ext (.t 28) 0, none⟩,
 ⟨(some 35), .ext (.t 28) 1, none⟩,
 ⟨(some 36), .ext (.t 28) 2, none⟩,
 ⟨(some 9), .new [.int .i64 0, .int .i64 0, .int .i64 0, .int .i64 0], none⟩,
 ⟨(some 8), .mv (.t 34), none⟩,
 ⟨none, .st 4 (.t 9) (.t 35), none⟩,
 ⟨(some 10), .mv (.t 36), none⟩])
 k72_7

def k72_9 : ACode :=
 .seq (.seq (.region [
 ⟨(some 13), .ld (some 6) (.t 5), none⟩,
 ⟨(some 14), .call 79 [(.t 13)], none⟩,
 ⟨(some 15), .un .not (.t 14), none⟩,
 ⟨(some 16), .mv (.t 15), none⟩,
 ⟨(some 17), .fld 0 (.t 5), (some (16, false))⟩,
 ⟨(some 18), .ld none (.t 17), (some (16, false))⟩,
 ⟨(some 19), .bin .neq (.t 18) (.c (.int .i64 5)), (some (16, false))⟩,
 ⟨(some 20), .mv (.t 19), (some (16, false))⟩,
 ⟨(some 21), .fld 0 (.t 5), (some (20, true))⟩,
 ⟨(some 22), .ld none (.t 21), (some (20, true))⟩,
 ⟨(some 23), .bin .neq (.t 22) (.c (.int .i64 6)), (some (20, true))⟩,
 ⟨(some 24), .pick (.t 20) (.t 23) (.c (.bool false)), (some (16, false))⟩,
 ⟨(some 25), .pick (.t 16) (.c (.bool true)) (.t 24), none⟩])
 (.cond (.t 25)
 k72_0
 (.skip)))
 k72_8

def c72 : ACode :=
 .seq (.region [
 ⟨(some 3), .box (.t 0), none⟩,
 ⟨(some 5), .box (.t 2), none⟩,
 ⟨(some 6), .new [.int .i64 0, .int .i64 0, .int .i64 0, .lit (.slice none 0 0), .lit (.slice none 0 0)], none⟩,
 ⟨(some 7), .new [.int .i64 0, .int .u64 0, .int .i64 0], none⟩])
 k72_9
theorem ok72 : fnOk Tryz.prog 72 c72 60 [.c 6 (some 5), .c 7 (some 3)] = true := by kernel_rfl

def k78_0 : ACode :=
 .seq (.region [
 ⟨(some 22), .ld (some 5) (.t 3), none⟩,
 ⟨(some 23), .build [.int .i64 0, .int .u64 0, .int .i64 0] [(0, 1, (.c (.int .i64 1)))], none⟩,
 ⟨none, .st 5 (.t 6) (.t 22), none⟩,
 ⟨none, .st 3 (.t 7) (.t 23), none⟩])
 (.ret)

def k78_1 : ACode :=
 .seq (.region [
 ⟨(some 28), .ld (some 5) (.t 3), none⟩,
 ⟨(some 29), .mv (.t 1), none⟩,
 ⟨(some 30), .ld (some 6) (.t 5), none⟩,
 ⟨(some 31), .call 37 [(.t 28), (.t 29), (.t 30)], none⟩,
 ⟨(some 32), .ext (.t 31) 0, none⟩,
 ⟨(some 33), .ext (.t 31) 1, none⟩,
 ⟨none, .st 5 (.t 6) (.t 32), none⟩,
 ⟨none, .st 3 (.t 7) (.t 33), none⟩])
 (.ret)

def k78_2 : ACode :=
 .cond (.t 34)
 (.skip)
 (.region [
 ⟨(some 37), .bin .eql (.t 25) (.c (.int .i64 4)), none⟩,
 ⟨(some 34), .mv (.t 37), none⟩])

def k78_3 : ACode :=
 .cond (.t 34)
 (.skip)
 (.seq (.region [
 ⟨(some 36), .bin .eql (.t 25) (.c (.int .i64 3)), none⟩,
 ⟨(some 34), .mv (.t 36), none⟩])
 k78_2)

def k78_4 : ACode :=
 .seq (.region [
 ⟨(some 38), .ld (some 5) (.t 3), none⟩,
 ⟨(some 39), .mv (.t 1), none⟩,
 ⟨(some 40), .ld (some 6) (.t 5), none⟩,
 ⟨(some 41), .call 43 [(.t 38), (.t 39), (.t 40)], none⟩,
 ⟨(some 42), .ext (.t 41) 0, none⟩,
 ⟨(some 43), .ext (.t 41) 1, none⟩,
 ⟨none, .st 5 (.t 6) (.t 42), none⟩,
 ⟨none, .st 3 (.t 7) (.t 43), none⟩])
 (.ret)

def k78_5 : ACode :=
 .cond (.t 44)
 (.skip)
 (.region [
 ⟨(some 46), .bin .eql (.t 25) (.c (.int .i64 6)), none⟩,
 ⟨(some 44), .mv (.t 46), none⟩])

def k78_6 : ACode :=
 .seq (.region [
 ⟨(some 47), .ld (some 5) (.t 3), none⟩,
 ⟨(some 48), .mv (.t 1), none⟩,
 ⟨(some 49), .ld (some 6) (.t 5), none⟩,
 ⟨(some 50), .call 72 [(.t 47), (.t 48), (.t 49)], none⟩,
 ⟨(some 51), .ext (.t 50) 0, none⟩,
 ⟨(some 52), .ext (.t 50) 1, none⟩,
 ⟨none, .st 5 (.t 6) (.t 51), none⟩,
 ⟨none, .st 3 (.t 7) (.t 52), none⟩])
 (.ret)

def k78_7 : ACode :=
 .cond (.t 53)
 (.skip)
 (.region [
 ⟨(some 55), .bin .eql (.t 25) (.c (.int .i64 8)), none⟩,
 ⟨(some 53), .mv (.t 55), none⟩])

def k78_8 : ACode :=
 .seq (.region [
 ⟨(some 56), .ld (some 5) (.t 3), none⟩,
 ⟨(some 57), .mv (.t 1), none⟩,
 ⟨(some 58), .ld (some 6) (.t 5), none⟩,
 ⟨(some 59), .call 28 [(.t 56), (.t 57), (.t 58)], none⟩,
 ⟨(some 60), .ext (.t 59) 0, none⟩,
 ⟨(some 61), .ext (.t 59) 1, none⟩,
 ⟨none, .st 5 (.t 6) (.t 60), none⟩,
 ⟨none, .st 3 (.t 7) (.t 61), none⟩])
 (.ret)

def k78_9 : ACode :=
 .cond (.t 62)
 (.skip)
 (.region [
 ⟨(some 64), .bin .eql (.t 25) (.c (.int .i64 10)), none⟩,
 ⟨(some 62), .mv (.t 64), none⟩])

def k78_10 : ACode :=
 .seq (.region [
 ⟨(some 65), .ld (some 5) (.t 3), none⟩,
 ⟨(some 66), .mv (.t 1), none⟩,
 ⟨(some 67), .ld (some 6) (.t 5), none⟩,
 ⟨(some 68), .call 49 [(.t 65), (.t 66), (.t 67)], none⟩,
 ⟨(some 69), .ext (.t 68) 0, none⟩,
 ⟨(some 70), .ext (.t 68) 1, none⟩,
 ⟨none, .st 5 (.t 6) (.t 69), none⟩,
 ⟨none, .st 3 (.t 7) (.t 70), none⟩])
 (.ret)

def k78_11 : ACode :=
 .seq (.seq (.region [
 ⟨(some 63), .bin .eql (.t 25) (.c (.int .i64 9)), none⟩,
 ⟨(some 62), .mv (.t 63), none⟩])
 k78_9)
 (.cond (.t 62)
 k78_10
 (.skip))

def k78_12 : ACode :=
 .seq (.seq (.region [
 ⟨(some 54), .bin .eql (.t 25) (.c (.int .i64 7)), none⟩,
 ⟨(some 53), .mv (.t 54), none⟩])
 k78_7)
 (.cond (.t 53)
 k78_8
 k78_11)

def k78_13 : ACode :=
 .seq (.seq (.region [
 ⟨(some 45), .bin .eql (.t 25) (.c (.int .i64 5)), none⟩,
 ⟨(some 44), .mv (.t 45), none⟩])
 k78_5)
 (.cond (.t 44)
 k78_6
 k78_12)

def k78_14 : ACode :=
 .seq (.seq (.region [
 ⟨(some 35), .bin .eql (.t 25) (.c (.int .i64 2)), none⟩,
 ⟨(some 34), .mv (.t 35), none⟩])
 k78_3)
 (.cond (.t 34)
 k78_4
 k78_13)

def k78_15 : ACode :=
 .block 0 (
 .seq (.region [
 ⟨(some 27), .bin .eql (.t 25) (.c (.int .i64 1)), none⟩,
 ⟨(some 26), .mv (.t 27), none⟩])
 (.cond (.t 26)
 k78_1
 k78_14))

def k78_16 : ACode :=
 .seq (.region [
 ⟨(some 71), .ld (some 5) (.t 3), none⟩,
 ⟨(some 72), .mv (.t 1), none⟩,
 ⟨(some 73), .ld (some 6) (.t 5), none⟩,
 ⟨(some 74), .call 58 [(.t 71), (.t 72), (.t 73)], none⟩,
 ⟨(some 75), .ext (.t 74) 0, none⟩,
 ⟨(some 76), .ext (.t 74) 1, none⟩,
 ⟨none, .st 5 (.t 6) (.t 75), none⟩,
 ⟨none, .st 3 (.t 7) (.t 76), none⟩])
 (.ret)

def k78_17 : ACode :=
 .seq (.seq (.region [
 ⟨(some 24), .fld 0 (.t 5), none⟩,
 ⟨(some 25), .ld none (.t 24), none⟩])
 k78_15)
 k78_16

def k78_18 : ACode :=
 .seq (.seq (.region [
 ⟨(some 8), .ld (some 5) (.t 3), none⟩,
 ⟨(some 9), .call 26 [(.t 8)], none⟩,
 ⟨(some 10), .un .not (.t 9), none⟩,
 ⟨(some 11), .mv (.t 10), none⟩,
 ⟨(some 12), .ld (some 6) (.t 5), (some (11, false))⟩,
 ⟨(some 13), .call 79 [(.t 12)], (some (11, false))⟩,
 ⟨(some 14), .un .not (.t 13), (some (11, false))⟩,
 ⟨(some 15), .pick (.t 11) (.c (.bool true)) (.t 14), none⟩,
 ⟨(some 16), .mv (.t 15), none⟩,
 ⟨(some 17), .ld (some 5) (.t 3), (some (16, false))⟩,
 ⟨(some 18), .mv (.t 1), (some (16, false))⟩,
 ⟨(some 19), .call 149 [(.t 17), (.t 18)], (some (16, false))⟩,
 ⟨(some 20), .un .not (.t 19), (some (16, false))⟩,
 ⟨(some 21), .pick (.t 16) (.c (.bool true)) (.t 20), none⟩])
 (.cond (.t 21)
 k78_0
 (.skip)))
 k78_17

def c78 : ACode :=
 .seq (.region [
 ⟨(some 3), .box (.t 0), none⟩,
 ⟨(some 5), .box (.t 2), none⟩,
 ⟨(some 6), .new [.int .i64 0, .int .i64 0, .int .i64 0, .lit (.slice none 0 0), .lit (.slice none 0 0)], none⟩,
 ⟨(some 7), .new [.int .i64 0, .int .u64 0, .int .i64 0], none⟩])
 k78_18
theorem ok78 : fnOk Tryz.prog 78 c78 77 [.c 6 (some 5), .c 7 (some 3)] = true := by kernel_rfl

def k82_0 : ACode :=
 .seq (.region [
 ⟨(some 19), .ld (some 5) (.t 3), none⟩,
 ⟨(some 20), .build [.int .i64 0, .int .u64 0, .int .i64 0] [(0, 1, (.c (.int .i64 1)))], none⟩,
 ⟨none, .st 5 (.t 6) (.t 19), none⟩,
 ⟨none, .st 3 (.t 7) (.t 20), none⟩])
 (.ret)

def k82_1 : ACode :=
 .seq (.region [
 ⟨(some 24), .ld (some 5) (.t 3), none⟩,
 ⟨(some 25), .build [.int .i64 0, .int .u64 0, .int .i64 0] [(0, 1, (.c (.int .i64 2)))], none⟩,
 ⟨none, .st 5 (.t 6) (.t 24), none⟩,
 ⟨none, .st 3 (.t 7) (.t 25), none⟩])
 (.ret)

def k82_2 : ACode :=
 .seq (.region [
 ⟨(some 22), .mv (.t 9), none⟩,
 ⟨(some 23), .un .not (.t 22), none⟩,
 ⟨(some 21), .mv (.t 23), none⟩])
 (.cond (.t 21)
 k82_1
 (.skip))

def k82_3 : ACode :=
 .seq (.region [
 ⟨(some 26), .ld (some 5) (.t 3), none⟩,
 ⟨(some 27), .mv (.t 1), none⟩,
 ⟨(some 28), .ld (some 6) (.t 8), none⟩,
 ⟨(some 29), .call 78 [(.t 26), (.t 27), (.t 28)], none⟩,
 ⟨(some 30), .ext (.t 29) 0, none⟩,
 ⟨(some 31), .ext (.t 29) 1, none⟩,
 ⟨none, .st 5 (.t 6) (.t 30), none⟩,
 ⟨none, .st 3 (.t 7) (.t 31), none⟩])
 (.ret)

def k82_4 : ACode :=
 .seq (.block 0 (
 .seq (.region [
 ⟨(some 16), .ld (some 5) (.t 3), none⟩,
 ⟨(some 17), .call 26 [(.t 16)], none⟩,
 ⟨(some 18), .un .not (.t 17), none⟩,
 ⟨(some 15), .mv (.t 18), none⟩])
 (.cond (.t 15)
 k82_0
 k82_2)))
 k82_3

def k82_5 : ACode :=
 .seq (.region [
 ⟨(some 11), .mv (.t 2), none⟩,
 ⟨(some 12), .call 84 [(.t 11)], none⟩,
 ⟨(some 10), .mv (.t 12), none⟩,
 ⟨(some 13), .ext (.t 10) 0, none⟩,
 ⟨(some 14), .ext (.t 10) 1, none⟩,
 ⟨(some 8), .new [.int .i64 0, .lit (.slice none 0 0), .lit (.slice none 0 0), .int .i64 0, .int .i64 0, .int .u64 0], none⟩,
 ⟨none, .st 6 (.t 8) (.t 13), none⟩,
 ⟨(some 9), .mv (.t 14), none⟩])
 k82_4

def c82 : ACode :=
 .seq (.region [
 ⟨(some 3), .box (.t 0), none⟩,
 ⟨(some 6), .new [.int .i64 0, .int .i64 0, .int .i64 0, .lit (.slice none 0 0), .lit (.slice none 0 0)], none⟩,
 ⟨(some 7), .new [.int .i64 0, .int .u64 0, .int .i64 0], none⟩])
 k82_5
theorem ok82 : fnOk Tryz.prog 82 c82 32 [.c 6 (some 5), .c 7 (some 3)] = true := by kernel_rfl

def k86_0 : ACode :=
 .seq (.region [
 ⟨(some 3), .mv (.t 0), none⟩,
 ⟨(some 4), .bin .eql (.t 3) (.c (.int .i64 12)), none⟩,
 ⟨(some 5), .mv (.t 4), none⟩,
 ⟨(some 6), .mv (.t 0), (some (5, false))⟩,
 ⟨(some 7), .bin .eql (.t 6) (.c (.int .i64 13)), (some (5, false))⟩,
 ⟨(some 8), .pick (.t 5) (.c (.bool true)) (.t 7), none⟩,
 ⟨(some 2), .mv (.t 8), none⟩])
 (.ret)

def c86 : ACode :=
 .seq (.region [
 ⟨(some 2), .mv (.c (.bool false)), none⟩])
 k86_0
theorem ok86 : fnOk Tryz.prog 86 c86 9 [.t 2] = true := by kernel_rfl

def k145_0 : ACode :=
 .cond (.t 24)
 (.seq (.region [
 ⟨(some 4), .mv (.c (.bool false)), none⟩])
 (.ret))
 (.skip)

def k145_1 : ACode :=
 .drawn [
 (0, ⟨(some 39), .fld 3 (.t 2), none⟩),
 (1, ⟨(some 40), .ld none (.t 39), none⟩),
 (3, ⟨(some 42), .fld 3 (.t 2), none⟩),
 (4, ⟨(some 43), .ld none (.t 42), none⟩),
 (5, ⟨(some 44), .mv (.t 1), none⟩),
 (6, ⟨(some 45), .ixs 5 (.t 43) (.t 44), none⟩),
 (7, ⟨(some 46), .fld 4 (.t 45), none⟩),
 (8, ⟨(some 47), .ld none (.t 46), none⟩),
 (2, ⟨(some 41), .mv (.t 5), none⟩),
 (9, ⟨(some 48), .ixs 5 (.t 40) (.t 41), none⟩),
 (10, ⟨(some 49), .fld 4 (.t 48), none⟩),
 (11, ⟨none, .st 1 (.t 49) (.t 47), none⟩)]
 [[], [0], [], [], [3], [], [4, 5], [6], [7], [1, 2, 0, 1, 2, 3, 4, 5, 6, 7, 8], [9, 0, 1, 2, 3, 4, 5, 6, 7, 8], [10, 8, 0, 1, 2, 3, 4, 5, 6, 7, 8]] 0

def k145_2 : ACode :=
 .seq (.region [
 ⟨(some 31), .fld 3 (.t 2), none⟩,
 ⟨(some 32), .ld none (.t 31), none⟩,
 ⟨(some 33), .mv (.t 5), none⟩,
 ⟨(some 34), .ixs 5 (.t 32) (.t 33), none⟩,
 ⟨(some 35), .fld 4 (.t 34), none⟩,
 ⟨(some 36), .ld none (.t 35), none⟩,
 ⟨(some 37), .mv (.t 1), none⟩,
 ⟨(some 38), .bin .eql (.t 36) (.t 37), none⟩])
 (.cond (.t 38)
 k145_1
 (.skip))

def k145_3 : ACode :=
 .seq (.block 1 (
 .seq (.region [
 ⟨(some 30), .mv (.t 28), none⟩,
 ⟨(some 5), .mv (.t 30), none⟩])
 k145_2))
 (.region [
 ⟨(some 50), .bin .add (.t 28) (.c (.int .i64 1)), none⟩,
 ⟨(some 28), .mv (.t 50), none⟩])

def b145_4 : ACode :=
 .seq (.region [
 ⟨(some 29), .bin .lss (.t 28) (.t 27), none⟩])
 (.seq (.cond (.t 29)
 (.skip)
 (.exit 0))
 k145_3)

def k145_5 : ACode :=
 .region [
 ⟨(some 71), .fld 4 (.t 2), none⟩,
 ⟨(some 72), .ld none (.t 71), none⟩,
 ⟨(some 73), .mv (.t 6), none⟩,
 ⟨(some 74), .ixs 13 (.t 72) (.t 73), none⟩,
 ⟨(some 75), .fld 5 (.t 74), none⟩,
 ⟨none, .st 1 (.t 75) (.c (.int .i64 0)), none⟩]

def k145_6 : ACode :=
 .seq (.region [
 ⟨(some 62), .fld 4 (.t 2), none⟩,
 ⟨(some 63), .ld none (.t 62), none⟩,
 ⟨(some 64), .mv (.t 6), none⟩,
 ⟨(some 65), .ixs 13 (.t 63) (.t 64), none⟩,
 ⟨(some 66), .fld 5 (.t 65), none⟩,
 ⟨(some 67), .ld none (.t 66), none⟩,
 ⟨(some 68), .mv (.t 1), none⟩,
 ⟨(some 69), .bin .add (.t 68) (.c (.int .i64 1)), none⟩,
 ⟨(some 70), .bin .eql (.t 67) (.t 69), none⟩])
 (.cond (.t 70)
 k145_5
 (.skip))

def k145_7 : ACode :=
 .seq (.block 3 (
 .seq (.region [
 ⟨(some 61), .mv (.t 59), none⟩,
 ⟨(some 6), .mv (.t 61), none⟩])
 k145_6))
 (.region [
 ⟨(some 76), .bin .add (.t 59) (.c (.int .i64 1)), none⟩,
 ⟨(some 59), .mv (.t 76), none⟩])

def b145_8 : ACode :=
 .seq (.region [
 ⟨(some 60), .bin .lss (.t 59) (.t 58), none⟩])
 (.seq (.cond (.t 60)
 (.skip)
 (.exit 2))
 k145_7)

def k145_9 : ACode :=
 .seq (.seq (.region [
 ⟨(some 56), .fld 4 (.t 2), none⟩,
 ⟨(some 57), .ld none (.t 56), none⟩,
 ⟨(some 58), .len false (.t 57), none⟩,
 ⟨(some 59), .mv (.c (.int .i64 0)), none⟩])
 (.block 2 (
 .loop b145_8)))
 (.seq (.region [
 ⟨(some 4), .mv (.c (.bool true)), none⟩])
 (.ret))

def k145_10 : ACode :=
 .seq (.region [
 ⟨(some 51), .fld 3 (.t 2), none⟩,
 ⟨(some 52), .ld none (.t 51), none⟩,
 ⟨(some 53), .mv (.t 1), none⟩,
 ⟨(some 54), .build [.int .i64 0, .int .i64 0, .int .i64 0, .int .i64 0, .int .i64 0] [(4, 1, (.c (.int .i64 (-1))))], none⟩,
 ⟨(some 55), .ixs 5 (.t 52) (.t 53), none⟩,
 ⟨none, .st 5 (.t 55) (.t 54), none⟩])
 k145_9

def k145_11 : ACode :=
 .seq (.seq (.region [
 ⟨(some 25), .fld 3 (.t 2), none⟩,
 ⟨(some 26), .ld none (.t 25), none⟩,
 ⟨(some 27), .len false (.t 26), none⟩,
 ⟨(some 28), .mv (.c (.int .i64 0)), none⟩])
 (.block 0 (
 .loop b145_4)))
 k145_10

def k145_12 : ACode :=
 .seq (.seq (.region [
 ⟨(some 7), .mv (.t 1), none⟩,
 ⟨(some 8), .bin .lss (.t 7) (.c (.int .i64 0)), none⟩,
 ⟨(some 9), .mv (.t 8), none⟩,
 ⟨(some 10), .mv (.t 1), (some (9, false))⟩,
 ⟨(some 11), .fld 3 (.t 2), (some (9, false))⟩,
 ⟨(some 12), .ld none (.t 11), (some (9, false))⟩,
 ⟨(some 13), .len false (.t 12), (some (9, false))⟩,
 ⟨(some 14), .bin .geq (.t 10) (.t 13), (some (9, false))⟩,
 ⟨(some 15), .pick (.t 9) (.c (.bool true)) (.t 14), none⟩,
 ⟨(some 16), .mv (.t 15), none⟩,
 ⟨(some 17), .fld 3 (.t 2), (some (16, false))⟩,
 ⟨(some 18), .ld none (.t 17), (some (16, false))⟩,
 ⟨(some 19), .mv (.t 1), (some (16, false))⟩,
 ⟨(some 20), .ixs 5 (.t 18) (.t 19), (some (16, false))⟩,
 ⟨(some 21), .fld 0 (.t 20), (some (16, false))⟩,
 ⟨(some 22), .ld (some 4) (.t 21), (some (16, false))⟩,
 ⟨(some 23), .call 68 [(.t 22)], (some (16, false))⟩,
 ⟨(some 24), .pick (.t 16) (.c (.bool true)) (.t 23), none⟩])
 k145_0)
 k145_11

def c145 : ACode :=
 .seq (.region [
 ⟨(some 2), .box (.t 0), none⟩,
 ⟨(some 4), .mv (.c (.bool false)), none⟩])
 k145_12
theorem ok145 : fnOk Tryz.prog 145 c145 77 [.t 4] = true := by kernel_rfl

def k146_0 : ACode :=
 .cond (.t 35)
 (.seq (.region [
 ⟨(some 4), .mv (.c (.int .i64 0)), none⟩,
 ⟨(some 5), .mv (.c (.bool false)), none⟩])
 (.ret))
 (.skip)

def k146_1 : ACode :=
 .cond (.t 52)
 (.region [
 ⟨(some 53), .mv (.t 8), none⟩,
 ⟨(some 54), .bin .add (.t 53) (.c (.int .i64 1)), none⟩,
 ⟨(some 8), .mv (.t 54), none⟩])
 (.skip)

def k146_2 : ACode :=
 .seq (.region [
 ⟨(some 42), .fld 0 (.t 6), none⟩,
 ⟨(some 43), .ld none (.t 42), none⟩,
 ⟨(some 44), .bin .eql (.t 43) (.c (.int .i64 2)), none⟩,
 ⟨(some 45), .mv (.t 44), none⟩,
 ⟨(some 46), .ld (some 5) (.t 2), (some (45, true))⟩,
 ⟨(some 47), .fld 2 (.t 6), (some (45, true))⟩,
 ⟨(some 48), .ld none (.t 47), (some (45, true))⟩,
 ⟨(some 49), .mv (.t 9), (some (45, true))⟩,
 ⟨(some 50), .bin .add (.t 48) (.t 49), (some (45, true))⟩,
 ⟨(some 51), .call 145 [(.t 46), (.t 50)], (some (45, true))⟩,
 ⟨(some 52), .pick (.t 45) (.t 51) (.c (.bool false)), none⟩])
 k146_1

def k146_3 : ACode :=
 .seq (.block 1 (
 .seq (.region [
 ⟨(some 41), .mv (.t 39), none⟩,
 ⟨(some 9), .mv (.t 41), none⟩])
 k146_2))
 (.region [
 ⟨(some 55), .bin .add (.t 39) (.c (.int .i64 1)), none⟩,
 ⟨(some 39), .mv (.t 55), none⟩])

def b146_4 : ACode :=
 .seq (.region [
 ⟨(some 40), .bin .lss (.t 39) (.t 38), none⟩])
 (.seq (.cond (.t 40)
 (.skip)
 (.exit 0))
 k146_3)

def k146_5 : ACode :=
 .seq (.region [
 ⟨(some 61), .mv (.t 8), none⟩,
 ⟨(some 4), .mv (.t 61), none⟩,
 ⟨(some 5), .mv (.c (.bool true)), none⟩])
 (.ret)

def k146_6 : ACode :=
 .seq (.region [
 ⟨(some 56), .fld 4 (.t 2), none⟩,
 ⟨(some 57), .ld none (.t 56), none⟩,
 ⟨(some 58), .mv (.t 1), none⟩,
 ⟨(some 59), .build [.int .i64 0, .int .i64 0, .int .i64 0, .int .i64 0, .int .i64 0, .int .i64 0, .int .i64 0, .bool false, .int .u64 0, .int .u64 0, .int .u64 0, .int .u64 0, .int .u64 0] [], none⟩,
 ⟨(some 60), .ixs 13 (.t 57) (.t 58), none⟩,
 ⟨none, .st 13 (.t 60) (.t 59), none⟩])
 k146_5

def k146_7 : ACode :=
 .seq (.seq (.region [
 ⟨(some 36), .fld 1 (.t 6), none⟩,
 ⟨(some 37), .ld none (.t 36), none⟩,
 ⟨(some 38), .bin .shl (.c (.int .i64 1)) (.t 37), none⟩,
 ⟨(some 39), .mv (.c (.int .i64 0)), none⟩])
 (.block 0 (
 .loop b146_4)))
 k146_6

def k146_8 : ACode :=
 .seq (.seq (.region [
 ⟨(some 25), .fld 0 (.t 6), none⟩,
 ⟨(some 26), .ld none (.t 25), none⟩,
 ⟨(some 27), .bin .eql (.t 26) (.c (.int .i64 0)), none⟩,
 ⟨(some 28), .mv (.t 27), none⟩,
 ⟨(some 29), .mv (.t 7), (some (28, false))⟩,
 ⟨(some 30), .pick (.t 28) (.c (.bool true)) (.t 29), none⟩,
 ⟨(some 31), .mv (.t 30), none⟩,
 ⟨(some 32), .ld (some 5) (.t 2), (some (31, false))⟩,
 ⟨(some 33), .mv (.t 1), (some (31, false))⟩,
 ⟨(some 34), .call 220 [(.t 32), (.t 33)], (some (31, false))⟩,
 ⟨(some 35), .pick (.t 31) (.c (.bool true)) (.t 34), none⟩])
 k146_0)
 (.seq (.region [
 ⟨(some 8), .mv (.c (.int .i64 0)), none⟩])
 k146_7)

def k146_9 : ACode :=
 .seq (.region [
 ⟨(some 15), .mv (.t 1), none⟩,
 ⟨(some 16), .bin .geq (.t 15) (.c (.int .i64 2)), none⟩,
 ⟨(some 17), .mv (.t 16), none⟩,
 ⟨(some 18), .mv (.t 1), (some (17, true))⟩,
 ⟨(some 19), .fld 0 (.t 2), (some (17, true))⟩,
 ⟨(some 20), .fld 0 (.t 19), (some (17, true))⟩,
 ⟨(some 21), .ld none (.t 20), (some (17, true))⟩,
 ⟨(some 22), .bin .add (.c (.int .i64 2)) (.t 21), (some (17, true))⟩,
 ⟨(some 23), .bin .lss (.t 18) (.t 22), (some (17, true))⟩,
 ⟨(some 24), .pick (.t 17) (.t 23) (.c (.bool false)), none⟩,
 ⟨(some 7), .mv (.t 24), none⟩])
 k146_8

def k146_10 : ACode :=
 .seq (.region [
 ⟨(some 10), .fld 4 (.t 2), none⟩,
 ⟨(some 11), .ld none (.t 10), none⟩,
 ⟨(some 12), .mv (.t 1), none⟩,
 ⟨(some 13), .ixs 13 (.t 11) (.t 12), none⟩,
 ⟨(some 14), .ld (some 13) (.t 13), none⟩,
 ⟨(some 6), .new [.int .i64 0, .int .i64 0, .int .i64 0, .int .i64 0, .int .i64 0, .int .i64 0, .int .i64 0, .bool false, .int .u64 0, .int .u64 0, .int .u64 0, .int .u64 0, .int .u64 0], none⟩,
 ⟨none, .st 13 (.t 6) (.t 14), none⟩])
 k146_9

def c146 : ACode :=
 .seq (.region [
 ⟨(some 2), .box (.t 0), none⟩,
 ⟨(some 4), .mv (.c (.int .i64 0)), none⟩,
 ⟨(some 5), .mv (.c (.bool false)), none⟩])
 k146_10
theorem ok146 : fnOk Tryz.prog 146 c146 62 [.t 4, .t 5] = true := by kernel_rfl

def k149_0 : ACode :=
 .seq (.region [
 ⟨(some 5), .mv (.t 1), none⟩,
 ⟨(some 6), .bin .geq (.t 5) (.c (.int .i64 0)), none⟩,
 ⟨(some 7), .mv (.t 6), none⟩,
 ⟨(some 8), .mv (.t 1), (some (7, true))⟩,
 ⟨(some 9), .fld 0 (.t 2), (some (7, true))⟩,
 ⟨(some 10), .fld 0 (.t 9), (some (7, true))⟩,
 ⟨(some 11), .ld none (.t 10), (some (7, true))⟩,
 ⟨(some 12), .bin .lss (.t 8) (.t 11), (some (7, true))⟩,
 ⟨(some 13), .pick (.t 7) (.t 12) (.c (.bool false)), none⟩,
 ⟨(some 4), .mv (.t 13), none⟩])
 (.ret)

def c149 : ACode :=
 .seq (.region [
 ⟨(some 2), .box (.t 0), none⟩,
 ⟨(some 4), .mv (.c (.bool false)), none⟩])
 k149_0
theorem ok149 : fnOk Tryz.prog 149 c149 14 [.t 4] = true := by kernel_rfl

def k220_0 : ACode :=
 .seq (.region [
 ⟨(some 5), .fld 3 (.t 2), none⟩,
 ⟨(some 6), .ld none (.t 5), none⟩,
 ⟨(some 7), .mkf 252 [(.t 3)], none⟩,
 ⟨(some 8), .call 251 [(.t 6), (.t 7)], none⟩,
 ⟨(some 4), .mv (.t 8), none⟩])
 (.ret)

def c220 : ACode :=
 .seq (.region [
 ⟨(some 2), .box (.t 0), none⟩,
 ⟨(some 3), .box (.t 1), none⟩,
 ⟨(some 4), .mv (.c (.bool false)), none⟩])
 k220_0
theorem ok220 : fnOk Tryz.prog 220 c220 9 [.t 4] = true := by kernel_rfl

def k252_0 : ACode :=
 .seq (.region [
 ⟨(some 4), .fld 0 (.t 2), none⟩,
 ⟨(some 5), .ld (some 4) (.t 4), none⟩,
 ⟨(some 6), .call 68 [(.t 5)], none⟩,
 ⟨(some 7), .un .not (.t 6), none⟩,
 ⟨(some 8), .mv (.t 7), none⟩,
 ⟨(some 9), .fld 0 (.t 2), (some (8, true))⟩,
 ⟨(some 10), .fld 1 (.t 9), (some (8, true))⟩,
 ⟨(some 11), .ld none (.t 10), (some (8, true))⟩,
 ⟨(some 12), .ld none (.t 1), (some (8, true))⟩,
 ⟨(some 13), .bin .eql (.t 11) (.t 12), (some (8, true))⟩,
 ⟨(some 14), .pick (.t 8) (.t 13) (.c (.bool false)), none⟩,
 ⟨(some 3), .mv (.t 14), none⟩])
 (.ret)

def c252 : ACode :=
 .seq (.region [
 ⟨(some 2), .box (.t 0), none⟩,
 ⟨(some 3), .mv (.c (.bool false)), none⟩])
 k252_0
theorem ok252 : fnOk Tryz.prog 252 c252 15 [.t 3] = true := by kernel_rfl

end Go.Proofs.YtipigjckoejfpaaGreat.Ax

/- The code of functions of the program, for our abstract machine; each is tied to the program by a closed test. Written by gen.py. Conditions: none. -/
namespace Go.Proofs.YtipigjckoejfpaaGreat.Ax
open Go Go.Ax
set_option maxRecDepth 100000

def k17_0 : ACode :=
 .cond (.t 16)
 (.seq (.region [
 ⟨(some 6), .mv (.c (.bool false)), none⟩])
 (.ret))
 (.skip)

def k17_1 : ACode :=
 .cond (.t 27)
 (.seq (.region [
 ⟨(some 6), .mv (.c (.bool true)), none⟩])
 (.ret))
 (.skip)

def k17_2 : ACode :=
 .seq (.region [
 ⟨(some 51), .mv (.t 10), none⟩,
 ⟨(some 52), .bin .eql (.t 51) (.c (.int .i64 0)), none⟩,
 ⟨(some 53), .mv (.t 52), none⟩,
 ⟨(some 54), .fld 0 (.t 12), (some (53, true))⟩,
 ⟨(some 55), .ld none (.t 54), (some (53, true))⟩,
 ⟨(some 56), .bin .eql (.t 55) (.c (.int .i64 0)), (some (53, true))⟩,
 ⟨(some 57), .pick (.t 53) (.t 56) (.c (.bool false)), none⟩,
 ⟨(some 58), .mv (.t 57), none⟩,
 ⟨(some 59), .mv (.t 10), (some (58, false))⟩,
 ⟨(some 60), .bin .neq (.t 59) (.c (.int .i64 0)), (some (58, false))⟩,
 ⟨(some 61), .mv (.t 60), (some (58, false))⟩,
 ⟨(some 62), .fld 0 (.t 12), (some (61, true))⟩,
 ⟨(some 63), .ld none (.t 62), (some (61, true))⟩,
 ⟨(some 64), .mv (.t 10), (some (61, true))⟩,
 ⟨(some 65), .bin .eql (.t 63) (.t 64), (some (61, true))⟩,
 ⟨(some 66), .pick (.t 61) (.t 65) (.c (.bool false)), (some (58, false))⟩,
 ⟨(some 67), .pick (.t 58) (.c (.bool true)) (.t 66), none⟩,
 ⟨(some 68), .mv (.t 67), none⟩,
 ⟨(some 69), .ld (some 6) (.t 7), (some (68, false))⟩,
 ⟨(some 70), .call 79 [(.t 69)], (some (68, false))⟩,
 ⟨(some 71), .un .not (.t 70), (some (68, false))⟩,
 ⟨(some 72), .pick (.t 68) (.c (.bool true)) (.t 71), none⟩,
 ⟨(some 6), .mv (.t 72), none⟩])
 (.ret)

def k17_3 : ACode :=
 .cond (.t 87)
 (.seq (.region [
 ⟨(some 6), .mv (.c (.bool false)), none⟩])
 (.ret))
 (.skip)

def k17_4 : ACode :=
 .cond (.t 111)
 (.region [
 ⟨(some 112), .mv (.t 13), none⟩,
 ⟨(some 113), .bin .add (.t 112) (.c (.int .i64 1)), none⟩,
 ⟨(some 13), .mv (.t 113), none⟩])
 (.skip)

def k17_5 : ACode :=
 .seq (.region [
 ⟨(some 88), .fld 3 (.t 11), none⟩,
 ⟨(some 89), .ld none (.t 88), none⟩,
 ⟨(some 90), .mv (.t 14), none⟩,
 ⟨(some 91), .ixs 5 (.t 89) (.t 90), none⟩,
 ⟨(some 92), .fld 0 (.t 91), none⟩,
 ⟨(some 93), .ld (some 4) (.t 92), none⟩,
 ⟨(some 94), .call 68 [(.t 93)], none⟩,
 ⟨(some 95), .mv (.t 94), none⟩,
 ⟨(some 96), .mv (.t 14), (some (95, true))⟩,
 ⟨(some 97), .fld 3 (.t 3), (some (95, true))⟩,
 ⟨(some 98), .ld none (.t 97), (some (95, true))⟩,
 ⟨(some 99), .len false (.t 98), (some (95, true))⟩,
 ⟨(some 100), .bin .lss (.t 96) (.t 99), (some (95, true))⟩,
 ⟨(some 101), .pick (.t 95) (.t 100) (.c (.bool false)), none⟩,
 ⟨(some 102), .mv (.t 101), none⟩,
 ⟨(some 103), .fld 3 (.t 3), (some (102, true))⟩,
 ⟨(some 104), .ld none (.t 103), (some (102, true))⟩,
 ⟨(some 105), .mv (.t 14), (some (102, true))⟩,
 ⟨(some 106), .ixs 5 (.t 104) (.t 105), (some (102, true))⟩,
 ⟨(some 107), .fld 0 (.t 106), (some (102, true))⟩,
 ⟨(some 108), .ld (some 4) (.t 107), (some (102, true))⟩,
 ⟨(some 109), .call 68 [(.t 108)], (some (102, true))⟩,
 ⟨(some 110), .un .not (.t 109), (some (102, true))⟩,
 ⟨(some 111), .pick (.t 102) (.t 110) (.c (.bool false)), none⟩])
 k17_4

def k17_6 : ACode :=
 .seq (.block 1 (
 .seq (.seq (.region [
 ⟨(some 80), .fld 3 (.t 11), none⟩,
 ⟨(some 81), .ld none (.t 80), none⟩,
 ⟨(some 82), .mv (.t 14), none⟩,
 ⟨(some 83), .ixs 5 (.t 81) (.t 82), none⟩,
 ⟨(some 84), .fld 4 (.t 83), none⟩,
 ⟨(some 85), .ld none (.t 84), none⟩,
 ⟨(some 86), .mv (.t 8), none⟩,
 ⟨(some 87), .bin .eql (.t 85) (.t 86), none⟩])
 k17_3)
 k17_5))
 (.region [
 ⟨(some 78), .mv (.t 14), none⟩,
 ⟨(some 79), .bin .add (.t 78) (.c (.int .i64 1)), none⟩,
 ⟨(some 14), .mv (.t 79), none⟩])

def b17_7 : ACode :=
 .seq (.seq (.region [
 ⟨(some 73), .mv (.t 14), none⟩,
 ⟨(some 74), .fld 3 (.t 11), none⟩,
 ⟨(some 75), .ld none (.t 74), none⟩,
 ⟨(some 76), .len false (.t 75), none⟩,
 ⟨(some 77), .bin .lss (.t 73) (.t 76), none⟩])
 (.cond (.t 77)
 (.skip)
 (.exit 0)))
 k17_6

def k17_8 : ACode :=
 .seq (.drawn [
 (1, ⟨(some 115), .fld 2 (.t 12), none⟩),
 (2, ⟨(some 116), .ld none (.t 115), none⟩),
 (0, ⟨(some 114), .mv (.t 13), none⟩),
 (3, ⟨(some 117), .bin .eql (.t 114) (.t 116), none⟩),
 (4, ⟨(some 118), .mv (.t 117), none⟩),
 (5, ⟨(some 119), .fld 3 (.t 11), (some (118, true))⟩),
 (6, ⟨(some 120), .ld none (.t 119), (some (118, true))⟩),
 (7, ⟨(some 121), .mv (.t 8), (some (118, true))⟩),
 (8, ⟨(some 122), .ixs 5 (.t 120) (.t 121), (some (118, true))⟩),
 (9, ⟨(some 123), .fld 0 (.t 122), (some (118, true))⟩),
 (10, ⟨(some 124), .ld (some 4) (.t 123), (some (118, true))⟩),
 (11, ⟨(some 125), .call 68 [(.t 124)], (some (118, true))⟩),
 (12, ⟨(some 126), .mv (.t 125), (some (118, true))⟩),
 (13, ⟨(some 127), .fld 3 (.t 11), (some (126, false))⟩),
 (14, ⟨(some 128), .ld none (.t 127), (some (126, false))⟩),
 (15, ⟨(some 129), .mv (.t 8), (some (126, false))⟩),
 (16, ⟨(some 130), .ixs 5 (.t 128) (.t 129), (some (126, false))⟩),
 (17, ⟨(some 131), .fld 0 (.t 130), (some (126, false))⟩),
 (18, ⟨(some 132), .ld (some 4) (.t 131), (some (126, false))⟩),
 (19, ⟨(some 133), .ld (some 4) (.t 9), (some (126, false))⟩),
 (20, ⟨(some 134), .eqs false [0, 0, 0, 0] (.t 132) (.t 133), (some (126, false))⟩),
 (21, ⟨(some 135), .pick (.t 126) (.c (.bool true)) (.t 134), (some (118, true))⟩),
 (22, ⟨(some 136), .pick (.t 118) (.t 135) (.c (.bool false)), none⟩),
 (23, ⟨(some 6), .mv (.t 136), none⟩)]
 [[], [], [1], [0, 2], [3], [4], [5, 4], [4], [6, 7, 4], [8, 4], [9, 4], [10, 4, 4], [11, 11, 4], [12], [13, 12], [12], [14, 15, 12], [16, 12], [17, 12], [12], [18, 19, 12], [12, 20, 4], [4, 21], [22, 12, 0, 1, 2, 3, 4, 5, 6, 7, 8, 9, 10, 11, 12, 13, 14, 15, 16, 17, 18, 19, 20, 21, 22]] 0)
 (.ret)

def k17_9 : ACode :=
 .seq (.seq (.region [
 ⟨(some 14), .mv (.c (.int .i64 0)), none⟩])
 (.block 0 (
 .loop b17_7)))
 k17_8

def k17_10 : ACode :=
 .seq (.seq (.region [
 ⟨(some 44), .mv (.t 10), none⟩,
 ⟨(some 45), .bin .neq (.t 44) (.c (.int .i64 0)), none⟩,
 ⟨(some 46), .mv (.t 45), none⟩,
 ⟨(some 47), .fld 0 (.t 12), (some (46, false))⟩,
 ⟨(some 48), .ld none (.t 47), (some (46, false))⟩,
 ⟨(some 49), .bin .neq (.t 48) (.c (.int .i64 0)), (some (46, false))⟩,
 ⟨(some 50), .pick (.t 46) (.c (.bool true)) (.t 49), none⟩])
 (.cond (.t 50)
 k17_2
 (.skip)))
 (.seq (.region [
 ⟨(some 13), .mv (.c (.int .i64 0)), none⟩])
 k17_9)

def k17_11 : ACode :=
 .seq (.region [
 ⟨(some 38), .ld (some 5) (.t 3), none⟩,
 ⟨(some 39), .mv (.t 1), none⟩,
 ⟨(some 40), .ld (some 6) (.t 7), none⟩,
 ⟨(some 41), .call 78 [(.t 38), (.t 39), (.t 40)], none⟩,
 ⟨(some 37), .mv (.t 41), none⟩,
 ⟨(some 42), .ext (.t 37) 0, none⟩,
 ⟨(some 43), .ext (.t 37) 1, none⟩,
 ⟨(some 11), .new [.int .i64 0, .int .i64 0, .int .i64 0, .lit (.slice none 0 0), .lit (.slice none 0 0)], none⟩,
 ⟨(some 12), .new [.int .i64 0, .int .u64 0, .int .i64 0], none⟩,
 ⟨none, .st 5 (.t 11) (.t 42), none⟩,
 ⟨none, .st 3 (.t 12) (.t 43), none⟩])
 k17_10

def k17_12 : ACode :=
 .seq (.region [
 ⟨(some 29), .ld (some 5) (.t 3), none⟩,
 ⟨(some 30), .mv (.t 1), none⟩,
 ⟨(some 31), .fld 1 (.t 7), none⟩,
 ⟨(some 32), .ld (some 1) (.t 31), none⟩,
 ⟨(some 33), .call 65 [(.t 29), (.t 30), (.t 32)], none⟩,
 ⟨(some 28), .mv (.t 33), none⟩,
 ⟨(some 34), .ext (.t 28) 0, none⟩,
 ⟨(some 35), .ext (.t 28) 1, none⟩,
 ⟨(some 36), .ext (.t 28) 2, none⟩,
 ⟨(some 9), .new [.int .i64 0, .int .i64 0, .int .i64 0, .int .i64 0], none⟩,
 ⟨(some 8), .mv (.t 34), none⟩,
 ⟨none, .st 4 (.t 9) (.t 35), none⟩,
 ⟨(some 10), .mv (.t 36), none⟩])
 k17_11

def k17_13 : ACode :=
 .seq (.seq (.region [
 ⟨(some 20), .ld (some 5) (.t 3), none⟩,
 ⟨(some 21), .ld (some 6) (.t 7), none⟩,
 ⟨(some 22), .call 77 [(.t 20), (.t 21)], none⟩,
 ⟨(some 23), .mv (.t 22), none⟩,
 ⟨(some 24), .ld (some 5) (.t 3), (some (23, false))⟩,
 ⟨(some 25), .call 26 [(.t 24)], (some (23, false))⟩,
 ⟨(some 26), .un .not (.t 25), (some (23, false))⟩,
 ⟨(some 27), .pick (.t 23) (.c (.bool true)) (.t 26), none⟩])
 k17_1)
 k17_12

def k17_14 : ACode :=
 .seq (.region [
 ⟨(some 17), .mv (.t 2), none⟩,
 ⟨(some 18), .build [.lit (.slice none 0 0)] [(0, 1, (.t 17))], none⟩,
 ⟨(some 19), .build [.int .i64 0, .lit (.slice none 0 0), .lit (.slice none 0 0), .int .i64 0, .int .i64 0, .int .u64 0] [(0, 1, (.c (.int .i64 6))), (1, 1, (.t 18))], none⟩,
 ⟨(some 7), .new [.int .i64 0, .lit (.slice none 0 0), .lit (.slice none 0 0), .int .i64 0, .int .i64 0, .int .u64 0], none⟩,
 ⟨none, .st 6 (.t 7) (.t 19), none⟩])
 k17_13

def k17_15 : ACode :=
 .seq (.seq (.region [
 ⟨(some 15), .call 76 [], none⟩,
 ⟨(some 16), .un .not (.t 15), none⟩])
 k17_0)
 k17_14

def c17 : ACode :=
 .seq (.region [
 ⟨(some 3), .box (.t 0), none⟩,
 ⟨(some 6), .mv (.c (.bool false)), none⟩])
 k17_15
theorem ok17 : fnOk Tryz.prog 17 c17 137 [.t 6] = true := by kernel_rfl

def k76_0 : ACode :=
 .seq (.drawn [
 (0, ⟨(some 19), .ld (some 3) (.t 2), none⟩),
 (1, ⟨(some 20), .build [.int .i64 0, .int .u64 0, .int .i64 0] [(0, 1, (.c (.int .i64 2)))], none⟩),
 (2, ⟨(some 21), .eqs false [0, 0, 0] (.t 19) (.t 20), none⟩),
 (3, ⟨(some 22), .mv (.t 21), none⟩),
 (4, ⟨(some 23), .ld (some 5) (.t 1), (some (22, true))⟩),
 (5, ⟨(some 24), .call 80 [], (some (22, true))⟩),
 (6, ⟨(some 25), .call 34 [(.t 23), (.t 24)], (some (22, true))⟩),
 (7, ⟨(some 26), .pick (.t 22) (.t 25) (.c (.bool false)), none⟩),
 (8, ⟨(some 27), .mv (.t 26), none⟩),
 (9, ⟨(some 28), .fld 0 (.t 4), (some (27, true))⟩),
 (10, ⟨(some 29), .ld none (.t 28), (some (27, true))⟩),
 (11, ⟨(some 30), .bin .eql (.t 29) (.c (.int .i64 0)), (some (27, true))⟩),
 (12, ⟨(some 31), .pick (.t 27) (.t 30) (.c (.bool false)), none⟩),
 (13, ⟨(some 32), .mv (.t 31), none⟩),
 (14, ⟨(some 33), .ld (some 5) (.t 3), (some (32, true))⟩),
 (15, ⟨(some 34), .call 80 [], (some (32, true))⟩),
 (16, ⟨(some 35), .call 34 [(.t 33), (.t 34)], (some (32, true))⟩),
 (17, ⟨(some 36), .pick (.t 32) (.t 35) (.c (.bool false)), none⟩),
 (18, ⟨(some 37), .mv (.t 36), none⟩),
 (19, ⟨(some 38), .call 86 [(.c (.int .i64 13))], (some (37, true))⟩),
 (20, ⟨(some 39), .pick (.t 37) (.t 38) (.c (.bool false)), none⟩),
 (21, ⟨(some 40), .mv (.t 39), none⟩),
 (22, ⟨(some 41), .call 86 [(.c (.int .i64 11))], (some (40, true))⟩),
 (23, ⟨(some 42), .un .not (.t 41), (some (40, true))⟩),
 (24, ⟨(some 43), .pick (.t 40) (.t 42) (.c (.bool false)), none⟩),
 (25, ⟨(some 0), .mv (.t 43), none⟩)]
 [[], [], [0, 1], [2], [3], [3, 3], [4, 5, 5, 3], [3, 6], [7, 6], [8], [9, 8], [10, 8], [8, 11], [12, 8], [13], [13, 13], [14, 15, 15, 13], [13, 16], [17, 16], [18, 18], [18, 19], [20, 19], [21, 21], [22, 21], [21, 23], [24, 22, 0, 1, 2, 3, 4, 5, 6, 7, 8, 9, 10, 11, 12, 13, 14, 15, 16, 17, 18, 19, 20, 21, 22, 23, 24]] 0)
 (.ret)

def k76_1 : ACode :=
 .seq (.region [
 ⟨(some 12), .call 80 [], none⟩,
 ⟨(some 13), .bsl 1 1 [.int .i64 0] [(0, (.c (.int .i64 0)))], none⟩,
 ⟨(some 14), .call 81 [(.t 13)], none⟩,
 ⟨(some 15), .build [.int .i64 0, .lit (.slice none 0 0), .lit (.slice none 0 0), .int .i64 0, .int .i64 0, .int .u64 0] [(0, 1, (.c (.int .i64 13))), (1, 1, (.t 14))], none⟩,
 ⟨(some 16), .call 78 [(.t 12), (.c (.int .i64 0)), (.t 15)], none⟩,
 ⟨(some 11), .mv (.t 16), none⟩,
 ⟨(some 17), .ext (.t 11) 0, none⟩,
 ⟨(some 18), .ext (.t 11) 1, none⟩,
 ⟨(some 3), .new [.int .i64 0, .int .i64 0, .int .i64 0, .lit (.slice none 0 0), .lit (.slice none 0 0)], none⟩,
 ⟨(some 4), .new [.int .i64 0, .int .u64 0, .int .i64 0], none⟩,
 ⟨none, .st 5 (.t 3) (.t 17), none⟩,
 ⟨none, .st 3 (.t 4) (.t 18), none⟩])
 k76_0

def k76_2 : ACode :=
 .seq (.region [
 ⟨(some 6), .call 80 [], none⟩,
 ⟨(some 7), .bsl 1 2 [.int .u64 0] [(0, (.c (.int .u64 0))), (1, (.c (.int .u64 0)))], none⟩,
 ⟨(some 8), .call 82 [(.t 6), (.c (.int .i64 0)), (.t 7)], none⟩,
 ⟨(some 5), .mv (.t 8), none⟩,
 ⟨(some 9), .ext (.t 5) 0, none⟩,
 ⟨(some 10), .ext (.t 5) 1, none⟩,
 ⟨(some 1), .new [.int .i64 0, .int .i64 0, .int .i64 0, .lit (.slice none 0 0), .lit (.slice none 0 0)], none⟩,
 ⟨(some 2), .new [.int .i64 0, .int .u64 0, .int .i64 0], none⟩,
 ⟨none, .st 5 (.t 1) (.t 9), none⟩,
 ⟨none, .st 3 (.t 2) (.t 10), none⟩])
 k76_1

def c76 : ACode :=
 .seq (.region [
 ⟨(some 0), .mv (.c (.bool false)), none⟩])
 k76_2
theorem ok76 : fnOk Tryz.prog 76 c76 44 [.t 0] = true := by kernel_rfl

def k77_0 : ACode :=
 .seq (.region [
 ⟨(some 5), .fld 3 (.t 2), none⟩,
 ⟨(some 6), .ld none (.t 5), none⟩,
 ⟨(some 7), .len false (.t 6), none⟩,
 ⟨(some 8), .bin .gtr (.t 7) (.c (.int .i64 100)), none⟩,
 ⟨(some 9), .mv (.t 8), none⟩,
 ⟨(some 10), .fld 4 (.t 2), (some (9, false))⟩,
 ⟨(some 11), .ld none (.t 10), (some (9, false))⟩,
 ⟨(some 12), .len false (.t 11), (some (9, false))⟩,
 ⟨(some 13), .bin .gtr (.t 12) (.c (.int .i64 50)), (some (9, false))⟩,
 ⟨(some 14), .pick (.t 9) (.c (.bool true)) (.t 13), none⟩,
 ⟨(some 15), .mv (.t 14), none⟩,
 ⟨(some 16), .fld 1 (.t 3), (some (15, false))⟩,
 ⟨(some 17), .fld 0 (.t 16), (some (15, false))⟩,
 ⟨(some 18), .ld none (.t 17), (some (15, false))⟩,
 ⟨(some 19), .len false (.t 18), (some (15, false))⟩,
 ⟨(some 20), .bin .gtr (.t 19) (.c (.int .i64 10)), (some (15, false))⟩,
 ⟨(some 21), .pick (.t 15) (.c (.bool true)) (.t 20), none⟩,
 ⟨(some 22), .mv (.t 21), none⟩,
 ⟨(some 23), .fld 2 (.t 3), (some (22, false))⟩,
 ⟨(some 24), .fld 0 (.t 23), (some (22, false))⟩,
 ⟨(some 25), .ld none (.t 24), (some (22, false))⟩,
 ⟨(some 26), .len false (.t 25), (some (22, false))⟩,
 ⟨(some 27), .bin .gtr (.t 26) (.c (.int .i64 10)), (some (22, false))⟩,
 ⟨(some 28), .pick (.t 22) (.c (.bool true)) (.t 27), none⟩,
 ⟨(some 4), .mv (.t 28), none⟩])
 (.ret)

def c77 : ACode :=
 .seq (.region [
 ⟨(some 2), .box (.t 0), none⟩,
 ⟨(some 3), .box (.t 1), none⟩,
 ⟨(some 4), .mv (.c (.bool false)), none⟩])
 k77_0
theorem ok77 : fnOk Tryz.prog 77 c77 29 [.t 4] = true := by kernel_rfl

def k80_0 : ACode :=
 .seq (.region [
 ⟨(some 4), .call 148 [], none⟩,
 ⟨(some 5), .call 87 [(.t 4), (.c (.int .i64 64))], none⟩,
 ⟨(some 3), .mv (.t 5), none⟩,
 ⟨(some 6), .ext (.t 3) 0, none⟩,
 ⟨(some 7), .ext (.t 3) 1, none⟩,
 ⟨(some 1), .new [.int .i64 0, .int .i64 0, .int .i64 0, .lit (.slice none 0 0), .lit (.slice none 0 0)], none⟩,
 ⟨none, .st 5 (.t 1) (.t 6), none⟩,
 ⟨(some 2), .mv (.t 7), none⟩])
 (.seq (.region [
 ⟨(some 8), .ld (some 5) (.t 1), none⟩,
 ⟨none, .st 5 (.t 0) (.t 8), none⟩])
 (.ret))

def c80 : ACode :=
 .seq (.region [
 ⟨(some 0), .new [.int .i64 0, .int .i64 0, .int .i64 0, .lit (.slice none 0 0), .lit (.slice none 0 0)], none⟩])
 k80_0
theorem ok80 : fnOk Tryz.prog 80 c80 9 [.c 0 (some 5)] = true := by kernel_rfl

def k81_0 : ACode :=
 .seq (.region [
 ⟨(some 3), .mv (.t 0), none⟩,
 ⟨(some 4), .build [.lit (.slice none 0 0)] [(0, 1, (.t 3))], none⟩,
 ⟨none, .st 1 (.t 2) (.t 4), none⟩])
 (.ret)

def c81 : ACode :=
 .seq (.region [
 ⟨(some 2), .new [.lit (.slice none 0 0)], none⟩])
 k81_0
theorem ok81 : fnOk Tryz.prog 81 c81 5 [.c 2 (some 1)] = true := by kernel_rfl

end Go.Proofs.YtipigjckoejfpaaGreat.Ax

/- The code of functions of the program, for our abstract machine; each is tied to the program by a closed test. Written by gen.py. Conditions: none. -/
namespace Go.Proofs.YtipigjckoejfpaaGreat.Ax
open Go Go.Ax

end Go.Proofs.YtipigjckoejfpaaGreat.Ax
