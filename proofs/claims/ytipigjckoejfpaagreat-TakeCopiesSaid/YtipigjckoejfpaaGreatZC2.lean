/- Texts put behind one another: AxCOps, AxCLaw17. Conditions: none. -/
import Derived.Test.YtipigjckoejfpaaGreatAxEnterZ
import Derived.Test.YtipigjckoejfpaaGreatProg
import Derived.KernelRfl
set_option linter.unusedSimpArgs false
set_option linter.unusedVariables false
/- The code of functions of the program, for our abstract machine; each is tied to the program by a closed test. Written by gen.py. Conditions: none. -/
namespace Go.Proofs.YtipigjckoejfpaaGreat.Ax
open Go Go.Ax

def k43_0 : ACode :=
 .seq (.region [
 ⟨(some 19), .ld (some 5) (.t 3), none⟩,
 ⟨(some 20), .mv (.t 9), none⟩,
 ⟨(some 21), .build [.int .i64 0, .int .u64 0, .int .i64 0] [(0, 1, (.t 20))], none⟩,
 ⟨none, .st 5 (.t 6) (.t 19), none⟩,
 ⟨none, .st 3 (.t 7) (.t 21), none⟩])
 (.ret)

def k43_1 : ACode :=
 .seq (.region [
 ⟨(some 22), .ld (some 5) (.t 8), none⟩,
 ⟨(some 23), .build [.int .i64 0, .int .u64 0, .int .i64 0] [], none⟩,
 ⟨none, .st 5 (.t 6) (.t 22), none⟩,
 ⟨none, .st 3 (.t 7) (.t 23), none⟩])
 (.ret)

def k43_2 : ACode :=
 .seq (.seq (.region [
 ⟨(some 17), .mv (.t 9), none⟩,
 ⟨(some 18), .bin .neq (.t 17) (.c (.int .i64 0)), none⟩])
 (.cond (.t 18)
 k43_0
 (.skip)))
 k43_1

def k43_3 : ACode :=
 .seq (.region [
 ⟨(some 11), .ld (some 5) (.t 3), none⟩,
 ⟨(some 12), .mv (.t 1), none⟩,
 ⟨(some 13), .ld (some 6) (.t 5), none⟩,
 ⟨(some 14), .call 128 [(.t 11), (.t 12), (.t 13)], none⟩,
 ⟨(some 10), .mv (.t 14), none⟩,
 ⟨(some 15), .ext (.t 10) 0, none⟩,
 ⟨(some 16), .ext (.t 10) 1, none⟩,
 ⟨(some 8), .new [.int .i64 0, .int .i64 0, .int .i64 0, .lit (.slice none 0 0), .lit (.slice none 0 0)], none⟩,
 ⟨none, .st 5 (.t 8) (.t 15), none⟩,
 ⟨(some 9), .mv (.t 16), none⟩])
 k43_2

def c43 : ACode :=
 .seq (.region [
 ⟨(some 3), .box (.t 0), none⟩,
 ⟨(some 5), .box (.t 2), none⟩,
 ⟨(some 6), .new [.int .i64 0, .int .i64 0, .int .i64 0, .lit (.slice none 0 0), .lit (.slice none 0 0)], none⟩,
 ⟨(some 7), .new [.int .i64 0, .int .u64 0, .int .i64 0], none⟩])
 k43_3
theorem ok43 : fnOk Tryz.prog 43 c43 24 [.c 6 (some 5), .c 7 (some 3)] = true := by kernel_rfl

def k69_0 : ACode :=
 .seq (.region [
 ⟨(some 18), .ld (some 5) (.t 2), none⟩,
 ⟨none, .st 5 (.t 4) (.t 18), none⟩,
 ⟨(some 5), .mv (.c (.int .i64 0)), none⟩])
 (.ret)

def k69_1 : ACode :=
 .cond (.t 27)
 (.region [
 ⟨(some 28), .mv (.t 6), none⟩,
 ⟨(some 29), .bin .add (.t 28) (.c (.int .i64 1)), none⟩,
 ⟨(some 6), .mv (.t 29), none⟩])
 (.skip)

def k69_2 : ACode :=
 .seq (.region [
 ⟨(some 25), .ld (some 5) (.t 2), none⟩,
 ⟨(some 26), .mv (.t 8), none⟩,
 ⟨(some 27), .call 145 [(.t 25), (.t 26)], none⟩])
 k69_1

def k69_3 : ACode :=
 .seq (.block 1 (
 .seq (.region [
 ⟨(some 23), .ixs 1 (.t 19) (.t 21), none⟩,
 ⟨(some 24), .ld none (.t 23), none⟩,
 ⟨(some 8), .mv (.t 24), none⟩])
 k69_2))
 (.region [
 ⟨(some 30), .bin .add (.t 21) (.c (.int .i64 1)), none⟩,
 ⟨(some 21), .mv (.t 30), none⟩])

def b69_4 : ACode :=
 .seq (.region [
 ⟨(some 22), .bin .lss (.t 21) (.t 20), none⟩])
 (.seq (.cond (.t 22)
 (.skip)
 (.exit 0))
 k69_3)

def k69_5 : ACode :=
 .region [
 ⟨(some 47), .mv (.t 12), none⟩,
 ⟨(some 48), .mv (.t 47), none⟩,
 ⟨(some 49), .mv (.t 9), (some (48, false))⟩,
 ⟨(some 50), .pick (.t 48) (.c (.bool true)) (.t 49), none⟩,
 ⟨(some 9), .mv (.t 50), none⟩]

def k69_6 : ACode :=
 .seq (.region [
 ⟨(some 44), .mv (.t 6), none⟩,
 ⟨(some 45), .mv (.t 11), none⟩,
 ⟨(some 46), .bin .add (.t 44) (.t 45), none⟩,
 ⟨(some 6), .mv (.t 46), none⟩])
 k69_5

def k69_7 : ACode :=
 .seq (.region [
 ⟨(some 39), .ld (some 5) (.t 2), none⟩,
 ⟨(some 40), .mv (.t 10), none⟩,
 ⟨(some 41), .call 146 [(.t 39), (.t 40)], none⟩,
 ⟨(some 38), .mv (.t 41), none⟩,
 ⟨(some 42), .ext (.t 38) 0, none⟩,
 ⟨(some 43), .ext (.t 38) 1, none⟩,
 ⟨(some 11), .mv (.t 42), none⟩,
 ⟨(some 12), .mv (.t 43), none⟩])
 k69_6

def k69_8 : ACode :=
 .seq (.block 5 (
 .seq (.region [
 ⟨(some 37), .mv (.t 35), none⟩,
 ⟨(some 10), .mv (.t 37), none⟩])
 k69_7))
 (.region [
 ⟨(some 51), .bin .add (.t 35) (.c (.int .i64 1)), none⟩,
 ⟨(some 35), .mv (.t 51), none⟩])

def b69_9 : ACode :=
 .seq (.region [
 ⟨(some 36), .bin .lss (.t 35) (.t 34), none⟩])
 (.seq (.cond (.t 36)
 (.skip)
 (.exit 4))
 k69_8)

def k69_10 : ACode :=
 .seq (.region [
 ⟨(some 32), .fld 4 (.t 2), none⟩,
 ⟨(some 33), .ld none (.t 32), none⟩,
 ⟨(some 34), .len false (.t 33), none⟩,
 ⟨(some 35), .mv (.c (.int .i64 0)), none⟩])
 (.block 4 (
 .loop b69_9))

def b69_11 : ACode :=
 .seq (.seq (.region [
 ⟨(some 31), .mv (.t 9), none⟩])
 (.cond (.t 31)
 (.skip)
 (.exit 2)))
 (.block 3 (
 .seq (.region [
 ⟨(some 9), .mv (.c (.bool false)), none⟩])
 k69_10))

def k69_12 : ACode :=
 .seq (.region [
 ⟨(some 52), .ld (some 5) (.t 2), none⟩,
 ⟨(some 53), .mv (.t 6), none⟩,
 ⟨none, .st 5 (.t 4) (.t 52), none⟩,
 ⟨(some 5), .mv (.t 53), none⟩])
 (.ret)

def k69_13 : ACode :=
 .seq (.seq (.region [
 ⟨(some 9), .mv (.c (.bool true)), none⟩])
 (.block 2 (
 .loop b69_11)))
 k69_12

def k69_14 : ACode :=
 .seq (.seq (.region [
 ⟨(some 19), .mv (.t 1), none⟩,
 ⟨(some 20), .len false (.t 19), none⟩,
 ⟨(some 21), .mv (.c (.int .i64 0)), none⟩])
 (.block 0 (
 .loop b69_4)))
 k69_13

def k69_15 : ACode :=
 .seq (.seq (.region [
 ⟨(some 15), .ld (some 5) (.t 2), none⟩,
 ⟨(some 16), .call 26 [(.t 15)], none⟩,
 ⟨(some 17), .un .not (.t 16), none⟩])
 (.cond (.t 17)
 k69_0
 (.skip)))
 (.seq (.region [
 ⟨(some 6), .mv (.c (.int .i64 0)), none⟩])
 k69_14)

def k69_16 : ACode :=
 .seq (.region [
 ⟨(some 13), .ld (some 5) (.t 2), none⟩,
 ⟨(some 14), .call 27 [(.t 13)], none⟩,
 ⟨none, .st 5 (.t 2) (.t 14), none⟩])
 k69_15

def c69 : ACode :=
 .seq (.region [
 ⟨(some 2), .box (.t 0), none⟩,
 ⟨(some 4), .new [.int .i64 0, .int .i64 0, .int .i64 0, .lit (.slice none 0 0), .lit (.slice none 0 0)], none⟩,
 ⟨(some 5), .mv (.c (.int .i64 0)), none⟩])
 k69_16
theorem ok69 : fnOk Tryz.prog 69 c69 54 [.c 4 (some 5), .t 5] = true := by kernel_rfl

def k72_0 : ACode :=
 .seq (.region [
 ⟨(some 26), .ld (some 5) (.t 3), none⟩,
 ⟨(some 27), .build [.int .i64 0, .int .u64 0, .int .i64 0] [(0, 1, (.c (.int .i64 1)))], none⟩,
 ⟨none, .st 5 (.t 6) (.t 26), none⟩,
 ⟨none, .st 3 (.t 7) (.t 27), none⟩])
 (.ret)

def k72_1 : ACode :=
 .seq (.region [
 ⟨(some 39), .ld (some 5) (.t 3), none⟩,
 ⟨(some 40), .mv (.t 10), none⟩,
 ⟨(some 41), .build [.int .i64 0, .int .u64 0, .int .i64 0] [(0, 1, (.t 40))], none⟩,
 ⟨none, .st 5 (.t 6) (.t 39), none⟩,
 ⟨none, .st 3 (.t 7) (.t 41), none⟩])
 (.ret)

def k72_2 : ACode :=
 .region [
 ⟨(some 47), .ld (some 5) (.t 3), none⟩,
 ⟨(some 48), .call 100 [(.t 47)], none⟩,
 ⟨(some 49), .mv (.t 8), none⟩,
 ⟨(some 50), .call 147 [(.t 48), (.t 49)], none⟩,
 ⟨(some 11), .mv (.t 50), none⟩]

def k72_3 : ACode :=
 .seq (.region [
 ⟨(some 57), .ld (some 5) (.t 3), none⟩,
 ⟨(some 58), .mv (.t 12), none⟩,
 ⟨(some 59), .build [.int .i64 0, .int .u64 0, .int .i64 0] [(2, 1, (.t 58))], none⟩,
 ⟨none, .st 5 (.t 6) (.t 57), none⟩,
 ⟨none, .st 3 (.t 7) (.t 59), none⟩])
 (.ret)

def k72_4 : ACode :=
 .seq (.region [
 ⟨(some 52), .ld (some 5) (.t 3), none⟩,
 ⟨(some 53), .mv (.t 11), none⟩,
 ⟨(some 54), .call 69 [(.t 52), (.t 53)], none⟩,
 ⟨(some 51), .mv (.t 54), none⟩,
 ⟨(some 55), .ext (.t 51) 0, none⟩,
 ⟨(some 56), .ext (.t 51) 1, none⟩,
 ⟨none, .st 5 (.t 3) (.t 55), none⟩,
 ⟨(some 12), .mv (.t 56), none⟩])
 k72_3

def k72_5 : ACode :=
 .seq (.seq (.region [
 ⟨(some 44), .fld 0 (.t 5), none⟩,
 ⟨(some 45), .ld none (.t 44), none⟩,
 ⟨(some 46), .bin .eql (.t 45) (.c (.int .i64 6)), none⟩])
 (.cond (.t 46)
 k72_2
 (.skip)))
 k72_4

def k72_6 : ACode :=
 .seq (.region [
 ⟨(some 42), .mv (.t 8), none⟩,
 ⟨(some 43), .bsl 1 1 [.int .i64 0] [(0, (.t 42))], none⟩,
 ⟨(some 11), .mv (.t 43), none⟩])
 k72_5

def k72_7 : ACode :=
 .seq (.seq (.region [
 ⟨(some 37), .mv (.t 10), none⟩,
 ⟨(some 38), .bin .neq (.t 37) (.c (.int .i64 0)), none⟩])
 (.cond (.t 38)
 k72_1
 (.skip)))
 k72_6

def k72_8 : ACode :=
 .seq (.region [
 ⟨(some 29), .ld (some 5) (.t 3), none⟩,
 ⟨(some 30), .mv (.t 1), none⟩,
 ⟨(some 31), .fld 1 (.t 5), none⟩,
 ⟨(some 32), .ld (some 1) (.t 31), none⟩,
 ⟨(some 33), .call 65 [(.t 29), (.t 30), (.t 32)], none⟩,
 ⟨(some 28), .mv (.t 33), none⟩,
 ⟨(some 34), .ext (.t 28) 0, none⟩,
 ⟨(some 35), .ext (.t 28) 1, none⟩,
 ⟨(some 36), .ext (.t 28) 2, none⟩,
 ⟨(some 9), .new [.int .i64 0, .int .i64 0, .int .i64 0, .int .i64 0], none⟩,
 ⟨(some 8), .mv (.t 34), none⟩,
 ⟨none, .st 4 (.t 9) (.t 35), none⟩,
 ⟨(some 10), .mv (.t 36), none⟩])
 k72_7

def k72_9 : ACode :=
 .seq (.seq (.region [
 ⟨(some 13), .ld (some 6) (.t 5), none⟩,
 ⟨(some 14), .call 79 [(.t 13)], none⟩,
 ⟨(some 15), .un .not (.t 14), none⟩,
 ⟨(some 16), .mv (.t 15), none⟩,
 ⟨(some 17), .fld 0 (.t 5), (some (16, false))⟩,
 ⟨(some 18), .ld none (.t 17), (some (16, false))⟩,
 ⟨(some 19), .bin .neq (.t 18) (.c (.int .i64 5)), (some (16, false))⟩,
 ⟨(some 20), .mv (.t 19), (some (16, false))⟩,
 ⟨(some 21), .fld 0 (.t 5), (some (20, true))⟩,
 ⟨(some 22), .ld none (.t 21), (some (20, true))⟩,
 ⟨(some 23), .bin .neq (.t 22) (.c (.int .i64 6)), (some (20, true))⟩,
 ⟨(some 24), .pick (.t 20) (.t 23) (.c (.bool false)), (some (16, false))⟩,
 ⟨(some 25), .pick (.t 16) (.c (.bool true)) (.t 24), none⟩])
 (.cond (.t 25)
 k72_0
 (.skip)))
 k72_8

def c72 : ACode :=
 .seq (.region [
 ⟨(some 3), .box (.t 0), none⟩,
 ⟨(some 5), .box (.t 2), none⟩,
 ⟨(some 6), .new [.int .i64 0, .int .i64 0, .int .i64 0, .lit (.slice none 0 0), .lit (.slice none 0 0)], none⟩,
 ⟨(some 7), .new [.int .i64 0, .int .u64 0, .int .i64 0], none⟩])
 k72_9
theorem ok72 : fnOk Tryz.prog 72 c72 60 [.c 6 (some 5), .c 7 (some 3)] = true := by kernel_rfl

def k128_0 : ACode :=
 .seq (.region [
 ⟨(some 30), .ld (some 5) (.t 3), none⟩,
 ⟨none, .st 5 (.t 6) (.t 30), none⟩,
 ⟨(some 7), .mv (.c (.int .i64 1)), none⟩])
 (.ret)

def k128_1 : ACode :=
 .seq (.region [
 ⟨(some 42), .ld (some 5) (.t 3), none⟩,
 ⟨(some 43), .mv (.t 10), none⟩,
 ⟨none, .st 5 (.t 6) (.t 42), none⟩,
 ⟨(some 7), .mv (.t 43), none⟩])
 (.ret)

def k128_2 : ACode :=
 .region [
 ⟨(some 47), .ld (some 4) (.t 9), none⟩,
 ⟨(some 48), .fld 3 (.t 5), none⟩,
 ⟨(some 49), .ld none (.t 48), none⟩,
 ⟨(some 50), .call 210 [(.t 47), (.t 49)], none⟩,
 ⟨none, .st 4 (.t 9) (.t 50), none⟩]

def k128_3 : ACode :=
 .seq (.region [
 ⟨(some 63), .ld (some 5) (.t 3), none⟩,
 ⟨(some 64), .mv (.t 10), none⟩,
 ⟨none, .st 5 (.t 6) (.t 63), none⟩,
 ⟨(some 7), .mv (.t 64), none⟩])
 (.ret)

def k128_4 : ACode :=
 .seq (.region [
 ⟨(some 61), .mv (.t 10), none⟩,
 ⟨(some 62), .bin .neq (.t 61) (.c (.int .i64 0)), none⟩])
 (.cond (.t 62)
 k128_3
 (.skip))

def k128_5 : ACode :=
 .seq (.region [
 ⟨(some 55), .ld (some 4) (.t 9), none⟩,
 ⟨(some 56), .fld 4 (.t 5), none⟩,
 ⟨(some 57), .ld none (.t 56), none⟩,
 ⟨(some 58), .call 211 [(.t 55), (.t 57)], none⟩,
 ⟨(some 54), .mv (.t 58), none⟩,
 ⟨(some 59), .ext (.t 54) 0, none⟩,
 ⟨(some 60), .ext (.t 54) 1, none⟩,
 ⟨none, .st 4 (.t 9) (.t 59), none⟩,
 ⟨(some 10), .mv (.t 60), none⟩])
 k128_4

def k128_6 : ACode :=
 .seq (.region [
 ⟨(some 75), .ld (some 5) (.t 3), none⟩,
 ⟨(some 76), .mv (.t 10), none⟩,
 ⟨none, .st 5 (.t 6) (.t 75), none⟩,
 ⟨(some 7), .mv (.t 76), none⟩])
 (.ret)

def k128_7 : ACode :=
 .seq (.region [
 ⟨(some 80), .ld (some 5) (.t 3), none⟩,
 ⟨(some 81), .mv (.t 8), none⟩,
 ⟨(some 82), .mv (.t 11), none⟩,
 ⟨(some 83), .ld (some 4) (.t 9), none⟩,
 ⟨(some 84), .call 178 [(.t 80), (.t 81), (.t 82), (.t 83)], none⟩,
 ⟨(some 85), .ext (.t 84) 0, none⟩,
 ⟨(some 86), .ext (.t 84) 1, none⟩,
 ⟨none, .st 5 (.t 6) (.t 85), none⟩,
 ⟨(some 7), .mv (.t 86), none⟩])
 (.ret)

def k128_8 : ACode :=
 .seq (.region [
 ⟨(some 91), .ld (some 5) (.t 3), none⟩,
 ⟨none, .st 5 (.t 6) (.t 91), none⟩,
 ⟨(some 7), .mv (.c (.int .i64 1)), none⟩])
 (.ret)

def k128_9 : ACode :=
 .seq (.region [
 ⟨(some 92), .ld (some 5) (.t 3), none⟩,
 ⟨(some 93), .mv (.t 8), none⟩,
 ⟨(some 94), .mv (.t 11), none⟩,
 ⟨(some 95), .call 213 [(.t 92), (.t 93), (.t 94)], none⟩,
 ⟨none, .st 5 (.t 6) (.t 95), none⟩,
 ⟨(some 7), .mv (.c (.int .i64 0)), none⟩])
 (.ret)

def k128_10 : ACode :=
 .seq (.seq (.region [
 ⟨(some 87), .ld (some 5) (.t 3), none⟩,
 ⟨(some 88), .ld (some 4) (.t 9), none⟩,
 ⟨(some 89), .mv (.t 11), none⟩,
 ⟨(some 90), .call 212 [(.t 87), (.t 88), (.t 89)], none⟩])
 (.cond (.t 90)
 k128_8
 (.skip)))
 k128_9

def k128_11 : ACode :=
 .seq (.seq (.region [
 ⟨(some 77), .fld 0 (.t 5), none⟩,
 ⟨(some 78), .ld none (.t 77), none⟩,
 ⟨(some 79), .bin .neq (.t 78) (.c (.int .i64 4)), none⟩])
 (.cond (.t 79)
 k128_7
 (.skip)))
 k128_10

def k128_12 : ACode :=
 .seq (.seq (.region [
 ⟨(some 73), .mv (.t 10), none⟩,
 ⟨(some 74), .bin .neq (.t 73) (.c (.int .i64 0)), none⟩])
 (.cond (.t 74)
 k128_6
 (.skip)))
 k128_11

def k128_13 : ACode :=
 .seq (.region [
 ⟨(some 66), .ld (some 5) (.t 3), none⟩,
 ⟨(some 67), .mv (.t 1), none⟩,
 ⟨(some 68), .fld 2 (.t 5), none⟩,
 ⟨(some 69), .ld (some 1) (.t 68), none⟩,
 ⟨(some 70), .call 177 [(.t 66), (.t 67), (.t 69)], none⟩,
 ⟨(some 65), .mv (.t 70), none⟩,
 ⟨(some 71), .ext (.t 65) 0, none⟩,
 ⟨(some 72), .ext (.t 65) 1, none⟩,
 ⟨(some 11), .mv (.t 71), none⟩,
 ⟨(some 10), .mv (.t 72), none⟩])
 k128_12

def k128_14 : ACode :=
 .seq (.seq (.region [
 ⟨(some 51), .fld 0 (.t 5), none⟩,
 ⟨(some 52), .ld none (.t 51), none⟩,
 ⟨(some 53), .bin .eql (.t 52) (.c (.int .i64 3)), none⟩])
 (.cond (.t 53)
 k128_5
 (.skip)))
 k128_13

def k128_15 : ACode :=
 .seq (.seq (.region [
 ⟨(some 44), .fld 0 (.t 5), none⟩,
 ⟨(some 45), .ld none (.t 44), none⟩,
 ⟨(some 46), .bin .neq (.t 45) (.c (.int .i64 4)), none⟩])
 (.cond (.t 46)
 k128_2
 (.skip)))
 k128_14

def k128_16 : ACode :=
 .seq (.seq (.region [
 ⟨(some 40), .mv (.t 10), none⟩,
 ⟨(some 41), .bin .neq (.t 40) (.c (.int .i64 0)), none⟩])
 (.cond (.t 41)
 k128_1
 (.skip)))
 k128_15

def k128_17 : ACode :=
 .seq (.region [
 ⟨(some 32), .ld (some 5) (.t 3), none⟩,
 ⟨(some 33), .mv (.t 1), none⟩,
 ⟨(some 34), .fld 1 (.t 5), none⟩,
 ⟨(some 35), .ld (some 1) (.t 34), none⟩,
 ⟨(some 36), .call 65 [(.t 32), (.t 33), (.t 35)], none⟩,
 ⟨(some 31), .mv (.t 36), none⟩,
 ⟨(some 37), .ext (.t 31) 0, none⟩,
 ⟨(some 38), .ext (.t 31) 1, none⟩,
 ⟨(some 39), .ext (.t 31) 2, none⟩,
 ⟨(some 9), .new [.int .i64 0, .int .i64 0, .int .i64 0, .int .i64 0], none⟩,
 ⟨(some 8), .mv (.t 37), none⟩,
 ⟨none, .st 4 (.t 9) (.t 38), none⟩,
 ⟨(some 10), .mv (.t 39), none⟩])
 k128_16

def k128_18 : ACode :=
 .seq (.seq (.region [
 ⟨(some 12), .ld (some 6) (.t 5), none⟩,
 ⟨(some 13), .call 79 [(.t 12)], none⟩,
 ⟨(some 14), .un .not (.t 13), none⟩,
 ⟨(some 15), .mv (.t 14), none⟩,
 ⟨(some 16), .fld 0 (.t 5), (some (15, false))⟩,
 ⟨(some 17), .ld none (.t 16), (some (15, false))⟩,
 ⟨(some 18), .bin .neq (.t 17) (.c (.int .i64 2)), (some (15, false))⟩,
 ⟨(some 19), .mv (.t 18), (some (15, false))⟩,
 ⟨(some 20), .fld 0 (.t 5), (some (19, true))⟩,
 ⟨(some 21), .ld none (.t 20), (some (19, true))⟩,
 ⟨(some 22), .bin .neq (.t 21) (.c (.int .i64 3)), (some (19, true))⟩,
 ⟨(some 23), .pick (.t 19) (.t 22) (.c (.bool false)), (some (15, false))⟩,
 ⟨(some 24), .mv (.t 23), (some (15, false))⟩,
 ⟨(some 25), .fld 0 (.t 5), (some (24, true))⟩,
 ⟨(some 26), .ld none (.t 25), (some (24, true))⟩,
 ⟨(some 27), .bin .neq (.t 26) (.c (.int .i64 4)), (some (24, true))⟩,
 ⟨(some 28), .pick (.t 24) (.t 27) (.c (.bool false)), (some (15, false))⟩,
 ⟨(some 29), .pick (.t 15) (.c (.bool true)) (.t 28), none⟩])
 (.cond (.t 29)
 k128_0
 (.skip)))
 k128_17

def c128 : ACode :=
 .seq (.region [
 ⟨(some 3), .box (.t 0), none⟩,
 ⟨(some 5), .box (.t 2), none⟩,
 ⟨(some 6), .new [.int .i64 0, .int .i64 0, .int .i64 0, .lit (.slice none 0 0), .lit (.slice none 0 0)], none⟩,
 ⟨(some 7), .mv (.c (.int .i64 0)), none⟩])
 k128_18
theorem ok128 : fnOk Tryz.prog 128 c128 96 [.c 6 (some 5), .t 7] = true := by kernel_rfl

def k145_0 : ACode :=
 .cond (.t 24)
 (.seq (.region [
 ⟨(some 4), .mv (.c (.bool false)), none⟩])
 (.ret))
 (.skip)

def k145_1 : ACode :=
 .drawn [
 (0, ⟨(some 39), .fld 3 (.t 2), none⟩),
 (1, ⟨(some 40), .ld none (.t 39), none⟩),
 (3, ⟨(some 42), .fld 3 (.t 2), none⟩),
 (4, ⟨(some 43), .ld none (.t 42), none⟩),
 (5, ⟨(some 44), .mv (.t 1), none⟩),
 (6, ⟨(some 45), .ixs 5 (.t 43) (.t 44), none⟩),
 (7, ⟨(some 46), .fld 4 (.t 45), none⟩),
 (8, ⟨(some 47), .ld none (.t 46), none⟩),
 (2, ⟨(some 41), .mv (.t 5), none⟩),
 (9, ⟨(some 48), .ixs 5 (.t 40) (.t 41), none⟩),
 (10, ⟨(some 49), .fld 4 (.t 48), none⟩),
 (11, ⟨none, .st 1 (.t 49) (.t 47), none⟩)]
 [[], [0], [], [], [3], [], [4, 5], [6], [7], [1, 2, 0, 1, 2, 3, 4, 5, 6, 7, 8], [9, 0, 1, 2, 3, 4, 5, 6, 7, 8], [10, 8, 0, 1, 2, 3, 4, 5, 6, 7, 8]] 0

def k145_2 : ACode :=
 .seq (.region [
 ⟨(some 31), .fld 3 (.t 2), none⟩,
 ⟨(some 32), .ld none (.t 31), none⟩,
 ⟨(some 33), .mv (.t 5), none⟩,
 ⟨(some 34), .ixs 5 (.t 32) (.t 33), none⟩,
 ⟨(some 35), .fld 4 (.t 34), none⟩,
 ⟨(some 36), .ld none (.t 35), none⟩,
 ⟨(some 37), .mv (.t 1), none⟩,
 ⟨(some 38), .bin .eql (.t 36) (.t 37), none⟩])
 (.cond (.t 38)
 k145_1
 (.skip))

def k145_3 : ACode :=
 .seq (.block 1 (
 .seq (.region [
 ⟨(some 30), .mv (.t 28), none⟩,
 ⟨(some 5), .mv (.t 30), none⟩])
 k145_2))
 (.region [
 ⟨(some 50), .bin .add (.t 28) (.c (.int .i64 1)), none⟩,
 ⟨(some 28), .mv (.t 50), none⟩])

def b145_4 : ACode :=
 .seq (.region [
 ⟨(some 29), .bin .lss (.t 28) (.t 27), none⟩])
 (.seq (.cond (.t 29)
 (.skip)
 (.exit 0))
 k145_3)

def k145_5 : ACode :=
 .region [
 ⟨(some 71), .fld 4 (.t 2), none⟩,
 ⟨(some 72), .ld none (.t 71), none⟩,
 ⟨(some 73), .mv (.t 6), none⟩,
 ⟨(some 74), .ixs 13 (.t 72) (.t 73), none⟩,
 ⟨(some 75), .fld 5 (.t 74), none⟩,
 ⟨none, .st 1 (.t 75) (.c (.int .i64 0)), none⟩]

def k145_6 : ACode :=
 .seq (.region [
 ⟨(some 62), .fld 4 (.t 2), none⟩,
 ⟨(some 63), .ld none (.t 62), none⟩,
 ⟨(some 64), .mv (.t 6), none⟩,
 ⟨(some 65), .ixs 13 (.t 63) (.t 64), none⟩,
 ⟨(some 66), .fld 5 (.t 65), none⟩,
 ⟨(some 67), .ld none (.t 66), none⟩,
 ⟨(some 68), .mv (.t 1), none⟩,
 ⟨(some 69), .bin .add (.t 68) (.c (.int .i64 1)), none⟩,
 ⟨(some 70), .bin .eql (.t 67) (.t 69), none⟩])
 (.cond (.t 70)
 k145_5
 (.skip))

def k145_7 : ACode :=
 .seq (.block 3 (
 .seq (.region [
 ⟨(some 61), .mv (.t 59), none⟩,
 ⟨(some 6), .mv (.t 61), none⟩])
 k145_6))
 (.region [
 ⟨(some 76), .bin .add (.t 59) (.c (.int .i64 1)), none⟩,
 ⟨(some 59), .mv (.t 76), none⟩])

def b145_8 : ACode :=
 .seq (.region [
 ⟨(some 60), .bin .lss (.t 59) (.t 58), none⟩])
 (.seq (.cond (.t 60)
 (.skip)
 (.exit 2))
 k145_7)

def k145_9 : ACode :=
 .seq (.seq (.region [
 ⟨(some 56), .fld 4 (.t 2), none⟩,
 ⟨(some 57), .ld none (.t 56), none⟩,
 ⟨(some 58), .len false (.t 57), none⟩,
 ⟨(some 59), .mv (.c (.int .i64 0)), none⟩])
 (.block 2 (
 .loop b145_8)))
 (.seq (.region [
 ⟨(some 4), .mv (.c (.bool true)), none⟩])
 (.ret))

def k145_10 : ACode :=
 .seq (.region [
 ⟨(some 51), .fld 3 (.t 2), none⟩,
 ⟨(some 52), .ld none (.t 51), none⟩,
 ⟨(some 53), .mv (.t 1), none⟩,
 ⟨(some 54), .build [.int .i64 0, .int .i64 0, .int .i64 0, .int .i64 0, .int .i64 0] [(4, 1, (.c (.int .i64 (-1))))], none⟩,
 ⟨(some 55), .ixs 5 (.t 52) (.t 53), none⟩,
 ⟨none, .st 5 (.t 55) (.t 54), none⟩])
 k145_9

def k145_11 : ACode :=
 .seq (.seq (.region [
 ⟨(some 25), .fld 3 (.t 2), none⟩,
 ⟨(some 26), .ld none (.t 25), none⟩,
 ⟨(some 27), .len false (.t 26), none⟩,
 ⟨(some 28), .mv (.c (.int .i64 0)), none⟩])
 (.block 0 (
 .loop b145_4)))
 k145_10

def k145_12 : ACode :=
 .seq (.seq (.region [
 ⟨(some 7), .mv (.t 1), none⟩,
 ⟨(some 8), .bin .lss (.t 7) (.c (.int .i64 0)), none⟩,
 ⟨(some 9), .mv (.t 8), none⟩,
 ⟨(some 10), .mv (.t 1), (some (9, false))⟩,
 ⟨(some 11), .fld 3 (.t 2), (some (9, false))⟩,
 ⟨(some 12), .ld none (.t 11), (some (9, false))⟩,
 ⟨(some 13), .len false (.t 12), (some (9, false))⟩,
 ⟨(some 14), .bin .geq (.t 10) (.t 13), (some (9, false))⟩,
 ⟨(some 15), .pick (.t 9) (.c (.bool true)) (.t 14), none⟩,
 ⟨(some 16), .mv (.t 15), none⟩,
 ⟨(some 17), .fld 3 (.t 2), (some (16, false))⟩,
 ⟨(some 18), .ld none (.t 17), (some (16, false))⟩,
 ⟨(some 19), .mv (.t 1), (some (16, false))⟩,
 ⟨(some 20), .ixs 5 (.t 18) (.t 19), (some (16, false))⟩,
 ⟨(some 21), .fld 0 (.t 20), (some (16, false))⟩,
 ⟨(some 22), .ld (some 4) (.t 21), (some (16, false))⟩,
 ⟨(some 23), .call 68 [(.t 22)], (some (16, false))⟩,
 ⟨(some 24), .pick (.t 16) (.c (.bool true)) (.t 23), none⟩])
 k145_0)
 k145_11

def c145 : ACode :=
 .seq (.region [
 ⟨(some 2), .box (.t 0), none⟩,
 ⟨(some 4), .mv (.c (.bool false)), none⟩])
 k145_12
theorem ok145 : fnOk Tryz.prog 145 c145 77 [.t 4] = true := by kernel_rfl

def k146_0 : ACode :=
 .cond (.t 35)
 (.seq (.region [
 ⟨(some 4), .mv (.c (.int .i64 0)), none⟩,
 ⟨(some 5), .mv (.c (.bool false)), none⟩])
 (.ret))
 (.skip)

def k146_1 : ACode :=
 .cond (.t 52)
 (.region [
 ⟨(some 53), .mv (.t 8), none⟩,
 ⟨(some 54), .bin .add (.t 53) (.c (.int .i64 1)), none⟩,
 ⟨(some 8), .mv (.t 54), none⟩])
 (.skip)

def k146_2 : ACode :=
 .seq (.region [
 ⟨(some 42), .fld 0 (.t 6), none⟩,
 ⟨(some 43), .ld none (.t 42), none⟩,
 ⟨(some 44), .bin .eql (.t 43) (.c (.int .i64 2)), none⟩,
 ⟨(some 45), .mv (.t 44), none⟩,
 ⟨(some 46), .ld (some 5) (.t 2), (some (45, true))⟩,
 ⟨(some 47), .fld 2 (.t 6), (some (45, true))⟩,
 ⟨(some 48), .ld none (.t 47), (some (45, true))⟩,
 ⟨(some 49), .mv (.t 9), (some (45, true))⟩,
 ⟨(some 50), .bin .add (.t 48) (.t 49), (some (45, true))⟩,
 ⟨(some 51), .call 145 [(.t 46), (.t 50)], (some (45, true))⟩,
 ⟨(some 52), .pick (.t 45) (.t 51) (.c (.bool false)), none⟩])
 k146_1

def k146_3 : ACode :=
 .seq (.block 1 (
 .seq (.region [
 ⟨(some 41), .mv (.t 39), none⟩,
 ⟨(some 9), .mv (.t 41), none⟩])
 k146_2))
 (.region [
 ⟨(some 55), .bin .add (.t 39) (.c (.int .i64 1)), none⟩,
 ⟨(some 39), .mv (.t 55), none⟩])

def b146_4 : ACode :=
 .seq (.region [
 ⟨(some 40), .bin .lss (.t 39) (.t 38), none⟩])
 (.seq (.cond (.t 40)
 (.skip)
 (.exit 0))
 k146_3)

def k146_5 : ACode :=
 .seq (.region [
 ⟨(some 61), .mv (.t 8), none⟩,
 ⟨(some 4), .mv (.t 61), none⟩,
 ⟨(some 5), .mv (.c (.bool true)), none⟩])
 (.ret)

def k146_6 : ACode :=
 .seq (.region [
 ⟨(some 56), .fld 4 (.t 2), none⟩,
 ⟨(some 57), .ld none (.t 56), none⟩,
 ⟨(some 58), .mv (.t 1), none⟩,
 ⟨(some 59), .build [.int .i64 0, .int .i64 0, .int .i64 0, .int .i64 0, .int .i64 0, .int .i64 0, .int .i64 0, .bool false, .int .u64 0, .int .u64 0, .int .u64 0, .int .u64 0, .int .u64 0] [], none⟩,
 ⟨(some 60), .ixs 13 (.t 57) (.t 58), none⟩,
 ⟨none, .st 13 (.t 60) (.t 59), none⟩])
 k146_5

def k146_7 : ACode :=
 .seq (.seq (.region [
 ⟨(some 36), .fld 1 (.t 6), none⟩,
 ⟨(some 37), .ld none (.t 36), none⟩,
 ⟨(some 38), .bin .shl (.c (.int .i64 1)) (.t 37), none⟩,
 ⟨(some 39), .mv (.c (.int .i64 0)), none⟩])
 (.block 0 (
 .loop b146_4)))
 k146_6

def k146_8 : ACode :=
 .seq (.seq (.region [
 ⟨(some 25), .fld 0 (.t 6), none⟩,
 ⟨(some 26), .ld none (.t 25), none⟩,
 ⟨(some 27), .bin .eql (.t 26) (.c (.int .i64 0)), none⟩,
 ⟨(some 28), .mv (.t 27), none⟩,
 ⟨(some 29), .mv (.t 7), (some (28, false))⟩,
 ⟨(some 30), .pick (.t 28) (.c (.bool true)) (.t 29), none⟩,
 ⟨(some 31), .mv (.t 30), none⟩,
 ⟨(some 32), .ld (some 5) (.t 2), (some (31, false))⟩,
 ⟨(some 33), .mv (.t 1), (some (31, false))⟩,
 ⟨(some 34), .call 220 [(.t 32), (.t 33)], (some (31, false))⟩,
 ⟨(some 35), .pick (.t 31) (.c (.bool true)) (.t 34), none⟩])
 k146_0)
 (.seq (.region [
 ⟨(some 8), .mv (.c (.int .i64 0)), none⟩])
 k146_7)

def k146_9 : ACode :=
 .seq (.region [
 ⟨(some 15), .mv (.t 1), none⟩,
 ⟨(some 16), .bin .geq (.t 15) (.c (.int .i64 2)), none⟩,
 ⟨(some 17), .mv (.t 16), none⟩,
 ⟨(some 18), .mv (.t 1), (some (17, true))⟩,
 ⟨(some 19), .fld 0 (.t 2), (some (17, true))⟩,
 ⟨(some 20), .fld 0 (.t 19), (some (17, true))⟩,
 ⟨(some 21), .ld none (.t 20), (some (17, true))⟩,
 ⟨(some 22), .bin .add (.c (.int .i64 2)) (.t 21), (some (17, true))⟩,
 ⟨(some 23), .bin .lss (.t 18) (.t 22), (some (17, true))⟩,
 ⟨(some 24), .pick (.t 17) (.t 23) (.c (.bool false)), none⟩,
 ⟨(some 7), .mv (.t 24), none⟩])
 k146_8

def k146_10 : ACode :=
 .seq (.region [
 ⟨(some 10), .fld 4 (.t 2), none⟩,
 ⟨(some 11), .ld none (.t 10), none⟩,
 ⟨(some 12), .mv (.t 1), none⟩,
 ⟨(some 13), .ixs 13 (.t 11) (.t 12), none⟩,
 ⟨(some 14), .ld (some 13) (.t 13), none⟩,
 ⟨(some 6), .new [.int .i64 0, .int .i64 0, .int .i64 0, .int .i64 0, .int .i64 0, .int .i64 0, .int .i64 0, .bool false, .int .u64 0, .int .u64 0, .int .u64 0, .int .u64 0, .int .u64 0], none⟩,
 ⟨none, .st 13 (.t 6) (.t 14), none⟩])
 k146_9

def c146 : ACode :=
 .seq (.region [
 ⟨(some 2), .box (.t 0), none⟩,
 ⟨(some 4), .mv (.c (.int .i64 0)), none⟩,
 ⟨(some 5), .mv (.c (.bool false)), none⟩])
 k146_10
theorem ok146 : fnOk Tryz.prog 146 c146 62 [.t 4, .t 5] = true := by kernel_rfl

def k178_0 : ACode :=
 .region [
 ⟨(some 43), .ld (some 5) (.t 4), none⟩,
 ⟨(some 44), .mv (.t 2), none⟩,
 ⟨(some 45), .call 239 [(.t 43), (.t 44)], none⟩,
 ⟨(some 46), .bin .lss (.t 45) (.c (.int .i64 0)), none⟩,
 ⟨(some 14), .mv (.t 46), none⟩]

def k178_1 : ACode :=
 .seq (.region [
 ⟨(some 18), .mv (.t 1), none⟩,
 ⟨(some 19), .bin .lss (.t 18) (.c (.int .i64 0)), none⟩,
 ⟨(some 20), .mv (.t 19), none⟩,
 ⟨(some 21), .mv (.t 1), (some (20, false))⟩,
 ⟨(some 22), .mv (.t 10), (some (20, false))⟩,
 ⟨(some 23), .bin .geq (.t 21) (.t 22), (some (20, false))⟩,
 ⟨(some 24), .pick (.t 20) (.c (.bool true)) (.t 23), none⟩,
 ⟨(some 25), .mv (.t 24), none⟩,
 ⟨(some 26), .mv (.t 2), (some (25, false))⟩,
 ⟨(some 27), .bin .lss (.t 26) (.c (.int .i64 0)), (some (25, false))⟩,
 ⟨(some 28), .pick (.t 25) (.c (.bool true)) (.t 27), none⟩,
 ⟨(some 29), .mv (.t 28), none⟩,
 ⟨(some 30), .mv (.t 2), (some (29, false))⟩,
 ⟨(some 31), .mv (.t 10), (some (29, false))⟩,
 ⟨(some 32), .bin .geq (.t 30) (.t 31), (some (29, false))⟩,
 ⟨(some 33), .pick (.t 29) (.c (.bool true)) (.t 32), none⟩,
 ⟨(some 34), .mv (.t 33), none⟩,
 ⟨(some 35), .ld (some 4) (.t 7), (some (34, false))⟩,
 ⟨(some 36), .call 51 [(.t 35)], (some (34, false))⟩,
 ⟨(some 37), .un .not (.t 36), (some (34, false))⟩,
 ⟨(some 38), .pick (.t 34) (.c (.bool true)) (.t 37), none⟩,
 ⟨(some 39), .mv (.t 38), none⟩,
 ⟨(some 40), .ld (some 4) (.t 7), (some (39, false))⟩,
 ⟨(some 41), .call 68 [(.t 40)], (some (39, false))⟩,
 ⟨(some 42), .pick (.t 39) (.c (.bool true)) (.t 41), none⟩,
 ⟨(some 14), .mv (.t 42), none⟩])
 (.cond (.t 14)
 (.skip)
 k178_0)

def k178_2 : ACode :=
 .seq (.region [
 ⟨(some 47), .ld (some 5) (.t 4), none⟩,
 ⟨none, .st 5 (.t 8) (.t 47), none⟩,
 ⟨(some 9), .mv (.c (.int .i64 1)), none⟩])
 (.ret)

def k178_3 : ACode :=
 .seq (.region [
 ⟨(some 56), .ld (some 5) (.t 4), none⟩,
 ⟨none, .st 5 (.t 8) (.t 56), none⟩,
 ⟨(some 9), .mv (.c (.int .i64 4)), none⟩])
 (.ret)

def k178_4 : ACode :=
 .seq (.region [
 ⟨(some 66), .ld (some 5) (.t 4), none⟩,
 ⟨none, .st 5 (.t 8) (.t 66), none⟩,
 ⟨(some 9), .mv (.c (.int .i64 5)), none⟩])
 (.ret)

def k178_5 : ACode :=
 .seq (.region [
 ⟨(some 76), .ld (some 5) (.t 4), none⟩,
 ⟨none, .st 5 (.t 8) (.t 76), none⟩,
 ⟨(some 9), .mv (.c (.int .i64 7)), none⟩])
 (.ret)

def k178_6 : ACode :=
 .region [
 ⟨(some 87), .ld (some 5) (.t 4), none⟩,
 ⟨(some 88), .ld (some 4) (.t 7), none⟩,
 ⟨(some 89), .mv (.t 2), none⟩,
 ⟨(some 90), .call 212 [(.t 87), (.t 88), (.t 89)], none⟩,
 ⟨(some 77), .mv (.t 90), none⟩]

def k178_7 : ACode :=
 .seq (.region [
 ⟨(some 91), .ld (some 5) (.t 4), none⟩,
 ⟨none, .st 5 (.t 8) (.t 91), none⟩,
 ⟨(some 9), .mv (.c (.int .i64 1)), none⟩])
 (.ret)

def k178_8 : ACode :=
 .seq (.seq (.drawn [
 (0, ⟨(some 78), .ld (some 4) (.t 7), none⟩),
 (1, ⟨(some 79), .fld 3 (.t 4), none⟩),
 (2, ⟨(some 80), .ld none (.t 79), none⟩),
 (3, ⟨(some 81), .mv (.t 1), none⟩),
 (4, ⟨(some 82), .ixs 5 (.t 80) (.t 81), none⟩),
 (5, ⟨(some 83), .fld 0 (.t 82), none⟩),
 (6, ⟨(some 84), .ld (some 4) (.t 83), none⟩),
 (7, ⟨(some 85), .call 93 [(.t 78), (.t 84)], none⟩),
 (8, ⟨(some 86), .un .not (.t 85), none⟩),
 (9, ⟨(some 77), .mv (.t 86), none⟩)]
 [[], [], [1], [], [2, 3], [4], [5], [0, 6], [7], [8, 7]] 0)
 (.cond (.t 77)
 (.skip)
 k178_6))
 (.cond (.t 77)
 k178_7
 (.skip))

def k178_9 : ACode :=
 .seq (.region [
 ⟨(some 68), .fld 3 (.t 4), none⟩,
 ⟨(some 69), .ld none (.t 68), none⟩,
 ⟨(some 70), .mv (.t 1), none⟩,
 ⟨(some 71), .ixs 5 (.t 69) (.t 70), none⟩,
 ⟨(some 72), .fld 0 (.t 71), none⟩,
 ⟨(some 73), .fld 0 (.t 72), none⟩,
 ⟨(some 74), .ld none (.t 73), none⟩,
 ⟨(some 75), .bin .eql (.t 74) (.c (.int .i64 1)), none⟩,
 ⟨(some 67), .mv (.t 75), none⟩])
 (.cond (.t 67)
 k178_5
 k178_8)

def k178_10 : ACode :=
 .seq (.region [
 ⟨(some 58), .fld 3 (.t 4), none⟩,
 ⟨(some 59), .ld none (.t 58), none⟩,
 ⟨(some 60), .mv (.t 2), none⟩,
 ⟨(some 61), .ixs 5 (.t 59) (.t 60), none⟩,
 ⟨(some 62), .fld 0 (.t 61), none⟩,
 ⟨(some 63), .ld (some 4) (.t 62), none⟩,
 ⟨(some 64), .call 68 [(.t 63)], none⟩,
 ⟨(some 65), .un .not (.t 64), none⟩,
 ⟨(some 57), .mv (.t 65), none⟩])
 (.cond (.t 57)
 k178_4
 k178_9)

def k178_11 : ACode :=
 .seq (.region [
 ⟨(some 49), .fld 3 (.t 4), none⟩,
 ⟨(some 50), .ld none (.t 49), none⟩,
 ⟨(some 51), .mv (.t 1), none⟩,
 ⟨(some 52), .ixs 5 (.t 50) (.t 51), none⟩,
 ⟨(some 53), .fld 0 (.t 52), none⟩,
 ⟨(some 54), .ld (some 4) (.t 53), none⟩,
 ⟨(some 55), .call 68 [(.t 54)], none⟩,
 ⟨(some 48), .mv (.t 55), none⟩])
 (.cond (.t 48)
 k178_3
 k178_10)

def k178_12 : ACode :=
 .seq (.region [
 ⟨(some 101), .ld (some 5) (.t 4), none⟩,
 ⟨none, .st 5 (.t 8) (.t 101), none⟩,
 ⟨(some 9), .mv (.c (.int .i64 0)), none⟩])
 (.ret)

def k178_13 : ACode :=
 .seq (.region [
 ⟨(some 94), .fld 3 (.t 4), none⟩,
 ⟨(some 95), .ld none (.t 94), none⟩,
 ⟨(some 96), .mv (.t 2), none⟩,
 ⟨(some 97), .ld (some 4) (.t 7), none⟩,
 ⟨(some 98), .mv (.t 1), none⟩,
 ⟨(some 99), .build [.int .i64 0, .int .i64 0, .int .i64 0, .int .i64 0, .int .i64 0] [(0, 4, (.t 97)), (4, 1, (.t 98))], none⟩,
 ⟨(some 100), .ixs 5 (.t 95) (.t 96), none⟩,
 ⟨none, .st 5 (.t 100) (.t 99), none⟩])
 k178_12

def k178_14 : ACode :=
 .seq (.region [
 ⟨(some 92), .ld (some 5) (.t 4), none⟩,
 ⟨(some 93), .call 27 [(.t 92)], none⟩,
 ⟨none, .st 5 (.t 4) (.t 93), none⟩])
 k178_13

def k178_15 : ACode :=
 .seq (.block 0 (
 .seq (.seq (.region [
 ⟨(some 15), .ld (some 5) (.t 4), none⟩,
 ⟨(some 16), .call 26 [(.t 15)], none⟩,
 ⟨(some 17), .un .not (.t 16), none⟩,
 ⟨(some 14), .mv (.t 17), none⟩])
 (.cond (.t 14)
 (.skip)
 k178_1))
 (.cond (.t 14)
 k178_2
 k178_11)))
 k178_14

def k178_16 : ACode :=
 .seq (.region [
 ⟨(some 11), .fld 3 (.t 4), none⟩,
 ⟨(some 12), .ld none (.t 11), none⟩,
 ⟨(some 13), .len false (.t 12), none⟩,
 ⟨(some 10), .mv (.t 13), none⟩])
 k178_15

def c178 : ACode :=
 .seq (.region [
 ⟨(some 4), .box (.t 0), none⟩,
 ⟨(some 7), .box (.t 3), none⟩,
 ⟨(some 8), .new [.int .i64 0, .int .i64 0, .int .i64 0, .lit (.slice none 0 0), .lit (.slice none 0 0)], none⟩,
 ⟨(some 9), .mv (.c (.int .i64 0)), none⟩])
 k178_16
theorem ok178 : fnOk Tryz.prog 178 c178 102 [.c 8 (some 5), .t 9] = true := by kernel_rfl

def k212_0 : ACode :=
 .seq (.region [
 ⟨(some 7), .fld 0 (.t 4), none⟩,
 ⟨(some 8), .ld none (.t 7), none⟩,
 ⟨(some 9), .bin .eql (.t 8) (.c (.int .i64 2)), none⟩,
 ⟨(some 10), .mv (.t 9), none⟩,
 ⟨(some 11), .ld (some 5) (.t 3), (some (10, true))⟩,
 ⟨(some 12), .fld 1 (.t 4), (some (10, true))⟩,
 ⟨(some 13), .ld none (.t 12), (some (10, true))⟩,
 ⟨(some 14), .mv (.t 2), (some (10, true))⟩,
 ⟨(some 15), .call 249 [(.t 11), (.t 13), (.t 14)], (some (10, true))⟩,
 ⟨(some 16), .pick (.t 10) (.t 15) (.c (.bool false)), none⟩,
 ⟨(some 6), .mv (.t 16), none⟩])
 (.ret)

def c212 : ACode :=
 .seq (.region [
 ⟨(some 3), .box (.t 0), none⟩,
 ⟨(some 4), .box (.t 1), none⟩,
 ⟨(some 6), .mv (.c (.bool false)), none⟩])
 k212_0
theorem ok212 : fnOk Tryz.prog 212 c212 17 [.t 6] = true := by kernel_rfl

def k213_0 : ACode :=
 .region [
 ⟨(some 47), .fld 3 (.t 3), none⟩,
 ⟨(some 48), .ld none (.t 47), none⟩,
 ⟨(some 49), .mv (.t 9), none⟩,
 ⟨(some 50), .mv (.t 10), none⟩,
 ⟨(some 51), .mxn true [(.t 50), (.c (.int .i64 (-1)))], none⟩,
 ⟨(some 52), .ixs 5 (.t 48) (.t 49), none⟩,
 ⟨(some 53), .fld 4 (.t 52), none⟩,
 ⟨none, .st 1 (.t 53) (.t 51), none⟩]

def k213_1 : ACode :=
 .seq (.block 1 (
 .seq (.region [
 ⟨(some 44), .mv (.t 42), none⟩,
 ⟨(some 45), .ixs 1 (.t 40) (.t 42), none⟩,
 ⟨(some 46), .ld none (.t 45), none⟩,
 ⟨(some 9), .mv (.t 44), none⟩,
 ⟨(some 10), .mv (.t 46), none⟩])
 k213_0))
 (.region [
 ⟨(some 54), .bin .add (.t 42) (.c (.int .i64 1)), none⟩,
 ⟨(some 42), .mv (.t 54), none⟩])

def b213_2 : ACode :=
 .seq (.region [
 ⟨(some 43), .bin .lss (.t 42) (.t 41), none⟩])
 (.seq (.cond (.t 43)
 (.skip)
 (.exit 0))
 k213_1)

def k213_3 : ACode :=
 .region [
 ⟨(some 70), .fld 4 (.t 3), none⟩,
 ⟨(some 71), .ld none (.t 70), none⟩,
 ⟨(some 72), .mv (.t 11), none⟩,
 ⟨(some 73), .mv (.t 2), none⟩,
 ⟨(some 74), .bin .add (.t 73) (.c (.int .i64 1)), none⟩,
 ⟨(some 75), .ixs 13 (.t 71) (.t 72), none⟩,
 ⟨(some 76), .fld 5 (.t 75), none⟩,
 ⟨none, .st 1 (.t 76) (.t 74), none⟩]

def k213_4 : ACode :=
 .seq (.region [
 ⟨(some 61), .fld 4 (.t 3), none⟩,
 ⟨(some 62), .ld none (.t 61), none⟩,
 ⟨(some 63), .mv (.t 11), none⟩,
 ⟨(some 64), .ixs 13 (.t 62) (.t 63), none⟩,
 ⟨(some 65), .fld 5 (.t 64), none⟩,
 ⟨(some 66), .ld none (.t 65), none⟩,
 ⟨(some 67), .mv (.t 1), none⟩,
 ⟨(some 68), .bin .add (.t 67) (.c (.int .i64 1)), none⟩,
 ⟨(some 69), .bin .eql (.t 66) (.t 68), none⟩])
 (.cond (.t 69)
 k213_3
 (.skip))

def k213_5 : ACode :=
 .seq (.block 3 (
 .seq (.region [
 ⟨(some 60), .mv (.t 58), none⟩,
 ⟨(some 11), .mv (.t 60), none⟩])
 k213_4))
 (.region [
 ⟨(some 77), .bin .add (.t 58) (.c (.int .i64 1)), none⟩,
 ⟨(some 58), .mv (.t 77), none⟩])

def b213_6 : ACode :=
 .seq (.region [
 ⟨(some 59), .bin .lss (.t 58) (.t 57), none⟩])
 (.seq (.cond (.t 59)
 (.skip)
 (.exit 2))
 k213_5)

def k213_7 : ACode :=
 .seq (.seq (.region [
 ⟨(some 55), .fld 4 (.t 3), none⟩,
 ⟨(some 56), .ld none (.t 55), none⟩,
 ⟨(some 57), .len false (.t 56), none⟩,
 ⟨(some 58), .mv (.c (.int .i64 0)), none⟩])
 (.block 2 (
 .loop b213_6)))
 (.seq (.region [
 ⟨(some 78), .ld (some 5) (.t 3), none⟩,
 ⟨none, .st 5 (.t 6) (.t 78), none⟩])
 (.ret))

def k213_8 : ACode :=
 .seq (.seq (.region [
 ⟨(some 39), .fld 0 (.t 7), none⟩,
 ⟨(some 40), .ld none (.t 39), none⟩,
 ⟨(some 41), .len false (.t 40), none⟩,
 ⟨(some 42), .mv (.c (.int .i64 0)), none⟩])
 (.block 0 (
 .loop b213_2)))
 k213_7

def k213_9 : ACode :=
 .seq (.drawn [
 (0, ⟨(some 22), .fld 3 (.t 3), none⟩),
 (1, ⟨(some 23), .ld none (.t 22), none⟩),
 (3, ⟨(some 25), .fld 3 (.t 3), none⟩),
 (4, ⟨(some 26), .ld none (.t 25), none⟩),
 (6, ⟨(some 28), .fld 3 (.t 3), none⟩),
 (7, ⟨(some 29), .ld none (.t 28), none⟩),
 (8, ⟨(some 30), .mv (.t 1), none⟩),
 (9, ⟨(some 31), .ixs 5 (.t 29) (.t 30), none⟩),
 (10, ⟨(some 32), .fld 0 (.t 31), none⟩),
 (11, ⟨(some 33), .ld (some 4) (.t 32), none⟩),
 (2, ⟨(some 24), .mv (.t 2), none⟩),
 (13, ⟨(some 35), .ixs 5 (.t 23) (.t 24), none⟩),
 (14, ⟨(some 36), .fld 0 (.t 35), none⟩),
 (15, ⟨none, .st 4 (.t 36) (.t 33), none⟩),
 (5, ⟨(some 27), .mv (.t 1), none⟩),
 (12, ⟨(some 34), .build [.int .i64 0, .int .i64 0, .int .i64 0, .int .i64 0] [], none⟩),
 (16, ⟨(some 37), .ixs 5 (.t 26) (.t 27), none⟩),
 (17, ⟨(some 38), .fld 0 (.t 37), none⟩),
 (18, ⟨none, .st 4 (.t 38) (.t 34), none⟩)]
 [[], [0], [], [], [3], [], [], [6], [], [7, 8], [9], [10], [], [1, 2, 0, 1, 2, 6, 7, 8, 9, 10, 11], [13, 0, 1, 2, 6, 7, 8, 9, 10, 11], [14, 11, 0, 1, 2, 6, 7, 8, 9, 10, 11], [4, 5, 0, 1, 2, 3, 4, 5, 6, 7, 8, 9, 10, 11, 12, 13, 14, 15], [16, 0, 1, 2, 3, 4, 5, 6, 7, 8, 9, 10, 11, 12, 13, 14, 15], [17, 12, 15, 0, 1, 2, 3, 4, 5, 6, 7, 8, 9, 10, 11, 12, 13, 14, 15]] 0)
 k213_8

def k213_10 : ACode :=
 .seq (.region [
 ⟨(some 20), .ld (some 5) (.t 3), none⟩,
 ⟨(some 21), .call 27 [(.t 20)], none⟩,
 ⟨none, .st 5 (.t 3) (.t 21), none⟩])
 k213_9

def k213_11 : ACode :=
 .seq (.region [
 ⟨(some 13), .ld (some 5) (.t 3), none⟩,
 ⟨(some 14), .call 100 [(.t 13)], none⟩,
 ⟨(some 15), .mv (.t 1), none⟩,
 ⟨(some 16), .mv (.t 2), none⟩,
 ⟨(some 17), .call 250 [(.t 14), (.t 15), (.t 16)], none⟩,
 ⟨(some 12), .mv (.t 17), none⟩,
 ⟨(some 18), .ext (.t 12) 0, none⟩,
 ⟨(some 19), .ext (.t 12) 1, none⟩,
 ⟨(some 7), .new [.lit (.slice none 0 0)], none⟩,
 ⟨none, .st 1 (.t 7) (.t 18), none⟩,
 ⟨(some 8), .mv (.t 19), none⟩])
 k213_10

def c213 : ACode :=
 .seq (.region [
 ⟨(some 3), .box (.t 0), none⟩,
 ⟨(some 6), .new [.int .i64 0, .int .i64 0, .int .i64 0, .lit (.slice none 0 0), .lit (.slice none 0 0)], none⟩])
 k213_11
theorem ok213 : fnOk Tryz.prog 213 c213 79 [.c 6 (some 5)] = true := by kernel_rfl

def k220_0 : ACode :=
 .seq (.region [
 ⟨(some 5), .fld 3 (.t 2), none⟩,
 ⟨(some 6), .ld none (.t 5), none⟩,
 ⟨(some 7), .mkf 252 [(.t 3)], none⟩,
 ⟨(some 8), .call 251 [(.t 6), (.t 7)], none⟩,
 ⟨(some 4), .mv (.t 8), none⟩])
 (.ret)

def c220 : ACode :=
 .seq (.region [
 ⟨(some 2), .box (.t 0), none⟩,
 ⟨(some 3), .box (.t 1), none⟩,
 ⟨(some 4), .mv (.c (.bool false)), none⟩])
 k220_0
theorem ok220 : fnOk Tryz.prog 220 c220 9 [.t 4] = true := by kernel_rfl

def k252_0 : ACode :=
 .seq (.region [
 ⟨(some 4), .fld 0 (.t 2), none⟩,
 ⟨(some 5), .ld (some 4) (.t 4), none⟩,
 ⟨(some 6), .call 68 [(.t 5)], none⟩,
 ⟨(some 7), .un .not (.t 6), none⟩,
 ⟨(some 8), .mv (.t 7), none⟩,
 ⟨(some 9), .fld 0 (.t 2), (some (8, true))⟩,
 ⟨(some 10), .fld 1 (.t 9), (some (8, true))⟩,
 ⟨(some 11), .ld none (.t 10), (some (8, true))⟩,
 ⟨(some 12), .ld none (.t 1), (some (8, true))⟩,
 ⟨(some 13), .bin .eql (.t 11) (.t 12), (some (8, true))⟩,
 ⟨(some 14), .pick (.t 8) (.t 13) (.c (.bool false)), none⟩,
 ⟨(some 3), .mv (.t 14), none⟩])
 (.ret)

def c252 : ACode :=
 .seq (.region [
 ⟨(some 2), .box (.t 0), none⟩,
 ⟨(some 3), .mv (.c (.bool false)), none⟩])
 k252_0
theorem ok252 : fnOk Tryz.prog 252 c252 15 [.t 3] = true := by kernel_rfl

end Go.Proofs.YtipigjckoejfpaaGreat.Ax

/- The code of functions of the program, for our abstract machine; each is tied to the program by a closed test. Written by gen.py. Conditions: none. -/
namespace Go.Proofs.YtipigjckoejfpaaGreat.Ax
open Go Go.Ax

def k14_0 : ACode :=
 .cond (.t 17)
 (.seq (.region [
 ⟨(some 10), .mv (.c (.bool false)), none⟩])
 (.ret))
 (.skip)

def k14_1 : ACode :=
 .cond (.t 36)
 (.seq (.region [
 ⟨(some 10), .mv (.c (.bool true)), none⟩])
 (.ret))
 (.skip)

def k14_2 : ACode :=
 .cond (.t 46)
 (.seq (.region [
 ⟨(some 10), .mv (.c (.bool true)), none⟩])
 (.ret))
 (.skip)

def k14_3 : ACode :=
 .seq (.region [
 ⟨(some 56), .ld (some 3) (.t 15), none⟩,
 ⟨(some 57), .build [.int .i64 0, .int .u64 0, .int .i64 0] [(2, 1, (.c (.int .i64 1)))], none⟩,
 ⟨(some 58), .eqs false [0, 0, 0] (.t 56) (.t 57), none⟩,
 ⟨(some 59), .mv (.t 58), none⟩,
 ⟨(some 60), .ld (some 5) (.t 14), (some (59, true))⟩,
 ⟨(some 61), .ld (some 5) (.t 5), (some (59, true))⟩,
 ⟨(some 62), .call 34 [(.t 60), (.t 61)], (some (59, true))⟩,
 ⟨(some 63), .pick (.t 59) (.t 62) (.c (.bool false)), none⟩,
 ⟨(some 10), .mv (.t 63), none⟩])
 (.ret)

def k14_4 : ACode :=
 .seq (.drawn [
 (0, ⟨(some 48), .ld (some 5) (.t 12), none⟩),
 (2, ⟨(some 50), .mv (.t 3), none⟩),
 (3, ⟨(some 51), .call 70 [(.t 50)], none⟩),
 (1, ⟨(some 49), .mv (.t 1), none⟩),
 (4, ⟨(some 52), .build [.int .i64 0, .lit (.slice none 0 0), .lit (.slice none 0 0), .int .i64 0, .int .i64 0, .int .u64 0] [(0, 1, (.c (.int .i64 5))), (1, 1, (.t 51))], none⟩),
 (5, ⟨(some 53), .call 72 [(.t 48), (.t 49), (.t 52)], none⟩),
 (6, ⟨(some 47), .mv (.t 53), none⟩),
 (7, ⟨(some 54), .ext (.t 47) 0, none⟩),
 (9, ⟨(some 14), .born 0 (.new [.int .i64 0, .int .i64 0, .int .i64 0, .lit (.slice none 0 0), .lit (.slice none 0 0)]), none⟩),
 (10, ⟨(some 15), .born 1 (.new [.int .i64 0, .int .u64 0, .int .i64 0]), none⟩),
 (11, ⟨none, .st 5 (.t 14) (.t 54), none⟩),
 (8, ⟨(some 55), .ext (.t 47) 1, none⟩),
 (12, ⟨none, .st 3 (.t 15) (.t 55), none⟩)]
 [[], [], [], [2], [3], [0, 1, 4, 3], [5], [6], [6], [], [], [9, 7, 5, 0, 1, 2, 3, 4, 5, 6, 7, 9, 10], [10, 8, 11, 0, 1, 2, 3, 4, 5, 6, 7, 8, 9, 10, 11]] 2)
 k14_3

def k14_5 : ACode :=
 .seq (.seq (.region [
 ⟨(some 44), .fld 0 (.t 13), none⟩,
 ⟨(some 45), .ld none (.t 44), none⟩,
 ⟨(some 46), .bin .neq (.t 45) (.c (.int .i64 0)), none⟩])
 k14_2)
 k14_4

def k14_6 : ACode :=
 .seq (.region [
 ⟨(some 38), .ld (some 5) (.t 5), none⟩,
 ⟨(some 39), .mv (.t 1), none⟩,
 ⟨(some 40), .ld (some 6) (.t 11), none⟩,
 ⟨(some 41), .call 43 [(.t 38), (.t 39), (.t 40)], none⟩,
 ⟨(some 37), .mv (.t 41), none⟩,
 ⟨(some 42), .ext (.t 37) 0, none⟩,
 ⟨(some 43), .ext (.t 37) 1, none⟩,
 ⟨(some 12), .new [.int .i64 0, .int .i64 0, .int .i64 0, .lit (.slice none 0 0), .lit (.slice none 0 0)], none⟩,
 ⟨(some 13), .new [.int .i64 0, .int .u64 0, .int .i64 0], none⟩,
 ⟨none, .st 5 (.t 12) (.t 42), none⟩,
 ⟨none, .st 3 (.t 13) (.t 43), none⟩])
 k14_5

def k14_7 : ACode :=
 .seq (.seq (.region [
 ⟨(some 24), .ld (some 5) (.t 5), none⟩,
 ⟨(some 25), .ld (some 6) (.t 11), none⟩,
 ⟨(some 26), .call 71 [(.t 24), (.t 25)], none⟩,
 ⟨(some 27), .mv (.t 26), none⟩,
 ⟨(some 28), .ld (some 5) (.t 5), (some (27, false))⟩,
 ⟨(some 29), .call 26 [(.t 28)], (some (27, false))⟩,
 ⟨(some 30), .un .not (.t 29), (some (27, false))⟩,
 ⟨(some 31), .pick (.t 27) (.c (.bool true)) (.t 30), none⟩,
 ⟨(some 32), .mv (.t 31), none⟩,
 ⟨(some 33), .mv (.t 3), (some (32, false))⟩,
 ⟨(some 34), .len false (.t 33), (some (32, false))⟩,
 ⟨(some 35), .bin .neq (.t 34) (.c (.int .i64 1)), (some (32, false))⟩,
 ⟨(some 36), .pick (.t 32) (.c (.bool true)) (.t 35), none⟩])
 k14_1)
 k14_6

def k14_8 : ACode :=
 .seq (.region [
 ⟨(some 18), .mv (.t 2), none⟩,
 ⟨(some 19), .call 70 [(.t 18)], none⟩,
 ⟨(some 20), .mv (.t 3), none⟩,
 ⟨(some 21), .call 70 [(.t 20)], none⟩,
 ⟨(some 22), .mv (.t 4), none⟩,
 ⟨(some 23), .build [.int .i64 0, .lit (.slice none 0 0), .lit (.slice none 0 0), .int .i64 0, .int .i64 0, .int .u64 0] [(0, 1, (.c (.int .i64 2))), (1, 1, (.t 19)), (2, 1, (.t 21)), (3, 1, (.t 22))], none⟩,
 ⟨(some 11), .new [.int .i64 0, .lit (.slice none 0 0), .lit (.slice none 0 0), .int .i64 0, .int .i64 0, .int .u64 0], none⟩,
 ⟨none, .st 6 (.t 11) (.t 23), none⟩])
 k14_7

def k14_9 : ACode :=
 .seq (.seq (.region [
 ⟨(some 16), .call 67 [], none⟩,
 ⟨(some 17), .un .not (.t 16), none⟩])
 k14_0)
 k14_8

def c14 : ACode :=
 .seq (.region [
 ⟨(some 5), .box (.t 0), none⟩,
 ⟨(some 10), .mv (.c (.bool false)), none⟩])
 k14_9
theorem ok14 : fnOk Tryz.prog 14 c14 64 [.t 10] = true := by kernel_rfl

def k67_0 : ACode :=
 .seq (.region [
 ⟨(some 33), .ld (some 3) (.t 4), none⟩,
 ⟨(some 34), .build [.int .i64 0, .int .u64 0, .int .i64 0] [(2, 1, (.c (.int .i64 1)))], none⟩,
 ⟨(some 35), .eqs false [0, 0, 0] (.t 33) (.t 34), none⟩,
 ⟨(some 36), .mv (.t 35), none⟩,
 ⟨(some 37), .fld 3 (.t 3), (some (36, true))⟩,
 ⟨(some 38), .ld none (.t 37), (some (36, true))⟩,
 ⟨(some 39), .len false (.t 38), (some (36, true))⟩,
 ⟨(some 40), .bin .eql (.t 39) (.c (.int .i64 32)), (some (36, true))⟩,
 ⟨(some 41), .pick (.t 36) (.t 40) (.c (.bool false)), none⟩,
 ⟨(some 42), .mv (.t 41), none⟩,
 ⟨(some 43), .fld 3 (.t 3), (some (42, true))⟩,
 ⟨(some 44), .ld none (.t 43), (some (42, true))⟩,
 ⟨(some 45), .ixs 5 (.t 44) (.c (.int .i64 3)), (some (42, true))⟩,
 ⟨(some 46), .fld 0 (.t 45), (some (42, true))⟩,
 ⟨(some 47), .ld (some 4) (.t 46), (some (42, true))⟩,
 ⟨(some 48), .call 68 [(.t 47)], (some (42, true))⟩,
 ⟨(some 49), .pick (.t 42) (.t 48) (.c (.bool false)), none⟩,
 ⟨(some 50), .mv (.t 49), none⟩,
 ⟨(some 51), .fld 3 (.t 3), (some (50, true))⟩,
 ⟨(some 52), .ld none (.t 51), (some (50, true))⟩,
 ⟨(some 53), .ixs 5 (.t 52) (.c (.int .i64 2)), (some (50, true))⟩,
 ⟨(some 54), .fld 0 (.t 53), (some (50, true))⟩,
 ⟨(some 55), .ld (some 4) (.t 54), (some (50, true))⟩,
 ⟨(some 56), .call 68 [(.t 55)], (some (50, true))⟩,
 ⟨(some 57), .un .not (.t 56), (some (50, true))⟩,
 ⟨(some 58), .pick (.t 50) (.t 57) (.c (.bool false)), none⟩,
 ⟨(some 0), .mv (.t 58), none⟩])
 (.ret)

def k67_1 : ACode :=
 .seq (.drawn [
 (0, ⟨(some 26), .ld (some 5) (.t 1), none⟩),
 (1, ⟨(some 27), .born 0 (.bsl 1 1 [.int .i64 0] [(0, (.c (.int .i64 2)))]), none⟩),
 (2, ⟨(some 28), .call 70 [(.t 27)], none⟩),
 (3, ⟨(some 29), .build [.int .i64 0, .lit (.slice none 0 0), .lit (.slice none 0 0), .int .i64 0, .int .i64 0, .int .u64 0] [(0, 1, (.c (.int .i64 6))), (1, 1, (.t 28))], none⟩),
 (4, ⟨(some 30), .call 72 [(.t 26), (.c (.int .i64 0)), (.t 29)], none⟩),
 (5, ⟨(some 25), .mv (.t 30), none⟩),
 (6, ⟨(some 31), .ext (.t 25) 0, none⟩),
 (8, ⟨(some 3), .born 1 (.new [.int .i64 0, .int .i64 0, .int .i64 0, .lit (.slice none 0 0), .lit (.slice none 0 0)]), none⟩),
 (9, ⟨(some 4), .born 2 (.new [.int .i64 0, .int .u64 0, .int .i64 0]), none⟩),
 (10, ⟨none, .st 5 (.t 3) (.t 31), none⟩),
 (7, ⟨(some 32), .ext (.t 25) 1, none⟩),
 (11, ⟨none, .st 3 (.t 4) (.t 32), none⟩)]
 [[], [], [1], [2], [0, 3, 2], [4], [5], [5], [], [], [8, 6, 4, 0, 1, 2, 3, 4, 5, 6, 8, 9], [9, 7, 10, 0, 1, 2, 3, 4, 5, 6, 7, 8, 9, 10]] 3)
 k67_0

def k67_2 : ACode :=
 .seq (.drawn [
 (0, ⟨(some 16), .ld (some 5) (.t 1), none⟩),
 (1, ⟨(some 17), .born 0 (.bsl 1 1 [.int .i64 0] [(0, (.c (.int .i64 2)))]), none⟩),
 (2, ⟨(some 18), .call 70 [(.t 17)], none⟩),
 (3, ⟨(some 19), .born 1 (.bsl 1 1 [.int .i64 0] [(0, (.c (.int .i64 3)))]), none⟩),
 (4, ⟨(some 20), .call 70 [(.t 19)], none⟩),
 (5, ⟨(some 21), .build [.int .i64 0, .lit (.slice none 0 0), .lit (.slice none 0 0), .int .i64 0, .int .i64 0, .int .u64 0] [(0, 1, (.c (.int .i64 2))), (1, 1, (.t 18)), (2, 1, (.t 20)), (3, 1, (.c (.int .i64 7)))], none⟩),
 (6, ⟨(some 22), .call 43 [(.t 16), (.c (.int .i64 0)), (.t 21)], none⟩),
 (7, ⟨(some 15), .mv (.t 22), none⟩),
 (8, ⟨(some 23), .ext (.t 15) 0, none⟩),
 (10, ⟨none, .st 5 (.t 1) (.t 23), none⟩),
 (9, ⟨(some 24), .ext (.t 15) 1, none⟩)]
 [[], [], [1], [], [3, 2], [2, 4], [0, 5, 4], [6], [7], [7], [8, 6, 0, 1, 2, 3, 4, 5, 6, 7, 8]] 2)
 k67_1

def k67_3 : ACode :=
 .seq (.region [
 ⟨(some 6), .call 144 [], none⟩,
 ⟨(some 7), .bsl 1 1 [.int .i64 0] [(0, (.c (.int .i64 1)))], none⟩,
 ⟨(some 8), .call 70 [(.t 7)], none⟩,
 ⟨(some 9), .bsl 1 1 [.int .i64 0] [(0, (.c (.int .i64 2)))], none⟩,
 ⟨(some 10), .call 70 [(.t 9)], none⟩,
 ⟨(some 11), .build [.int .i64 0, .lit (.slice none 0 0), .lit (.slice none 0 0), .int .i64 0, .int .i64 0, .int .u64 0] [(0, 1, (.c (.int .i64 2))), (1, 1, (.t 8)), (2, 1, (.t 10)), (3, 1, (.c (.int .i64 7)))], none⟩,
 ⟨(some 12), .call 43 [(.t 6), (.c (.int .i64 0)), (.t 11)], none⟩,
 ⟨(some 5), .mv (.t 12), none⟩,
 ⟨(some 13), .ext (.t 5) 0, none⟩,
 ⟨(some 14), .ext (.t 5) 1, none⟩,
 ⟨(some 1), .new [.int .i64 0, .int .i64 0, .int .i64 0, .lit (.slice none 0 0), .lit (.slice none 0 0)], none⟩,
 ⟨(some 2), .new [.int .i64 0, .int .u64 0, .int .i64 0], none⟩,
 ⟨none, .st 5 (.t 1) (.t 13), none⟩,
 ⟨none, .st 3 (.t 2) (.t 14), none⟩])
 k67_2

def c67 : ACode :=
 .seq (.region [
 ⟨(some 0), .mv (.c (.bool false)), none⟩])
 k67_3
theorem ok67 : fnOk Tryz.prog 67 c67 59 [.t 0] = true := by kernel_rfl

def k70_0 : ACode :=
 .seq (.region [
 ⟨(some 3), .mv (.t 0), none⟩,
 ⟨(some 4), .build [.lit (.slice none 0 0)] [(0, 1, (.t 3))], none⟩,
 ⟨none, .st 1 (.t 2) (.t 4), none⟩])
 (.ret)

def c70 : ACode :=
 .seq (.region [
 ⟨(some 2), .new [.lit (.slice none 0 0)], none⟩])
 k70_0
theorem ok70 : fnOk Tryz.prog 70 c70 5 [.c 2 (some 1)] = true := by kernel_rfl

def k71_0 : ACode :=
 .seq (.region [
 ⟨(some 5), .fld 3 (.t 2), none⟩,
 ⟨(some 6), .ld none (.t 5), none⟩,
 ⟨(some 7), .len false (.t 6), none⟩,
 ⟨(some 8), .bin .gtr (.t 7) (.c (.int .i64 100)), none⟩,
 ⟨(some 9), .mv (.t 8), none⟩,
 ⟨(some 10), .fld 4 (.t 2), (some (9, false))⟩,
 ⟨(some 11), .ld none (.t 10), (some (9, false))⟩,
 ⟨(some 12), .len false (.t 11), (some (9, false))⟩,
 ⟨(some 13), .bin .gtr (.t 12) (.c (.int .i64 50)), (some (9, false))⟩,
 ⟨(some 14), .pick (.t 9) (.c (.bool true)) (.t 13), none⟩,
 ⟨(some 15), .mv (.t 14), none⟩,
 ⟨(some 16), .fld 1 (.t 3), (some (15, false))⟩,
 ⟨(some 17), .fld 0 (.t 16), (some (15, false))⟩,
 ⟨(some 18), .ld none (.t 17), (some (15, false))⟩,
 ⟨(some 19), .len false (.t 18), (some (15, false))⟩,
 ⟨(some 20), .bin .gtr (.t 19) (.c (.int .i64 10)), (some (15, false))⟩,
 ⟨(some 21), .pick (.t 15) (.c (.bool true)) (.t 20), none⟩,
 ⟨(some 22), .mv (.t 21), none⟩,
 ⟨(some 23), .fld 2 (.t 3), (some (22, false))⟩,
 ⟨(some 24), .fld 0 (.t 23), (some (22, false))⟩,
 ⟨(some 25), .ld none (.t 24), (some (22, false))⟩,
 ⟨(some 26), .len false (.t 25), (some (22, false))⟩,
 ⟨(some 27), .bin .gtr (.t 26) (.c (.int .i64 10)), (some (22, false))⟩,
 ⟨(some 28), .pick (.t 22) (.c (.bool true)) (.t 27), none⟩,
 ⟨(some 4), .mv (.t 28), none⟩])
 (.ret)

def c71 : ACode :=
 .seq (.region [
 ⟨(some 2), .box (.t 0), none⟩,
 ⟨(some 3), .box (.t 1), none⟩,
 ⟨(some 4), .mv (.c (.bool false)), none⟩])
 k71_0
theorem ok71 : fnOk Tryz.prog 71 c71 29 [.t 4] = true := by kernel_rfl

def k144_0 : ACode :=
 .seq (.region [
 ⟨(some 4), .call 148 [], none⟩,
 ⟨(some 5), .call 87 [(.t 4), (.c (.int .i64 64))], none⟩,
 ⟨(some 3), .mv (.t 5), none⟩,
 ⟨(some 6), .ext (.t 3) 0, none⟩,
 ⟨(some 7), .ext (.t 3) 1, none⟩,
 ⟨(some 1), .new [.int .i64 0, .int .i64 0, .int .i64 0, .lit (.slice none 0 0), .lit (.slice none 0 0)], none⟩,
 ⟨none, .st 5 (.t 1) (.t 6), none⟩,
 ⟨(some 2), .mv (.t 7), none⟩])
 (.seq (.region [
 ⟨(some 8), .ld (some 5) (.t 1), none⟩,
 ⟨none, .st 5 (.t 0) (.t 8), none⟩])
 (.ret))

def c144 : ACode :=
 .seq (.region [
 ⟨(some 0), .new [.int .i64 0, .int .i64 0, .int .i64 0, .lit (.slice none 0 0), .lit (.slice none 0 0)], none⟩])
 k144_0
theorem ok144 : fnOk Tryz.prog 144 c144 9 [.c 0 (some 5)] = true := by kernel_rfl

end Go.Proofs.YtipigjckoejfpaaGreat.Ax
