/- Texts put behind one another: AxCOps, AxCLaw18. Conditions: none. -/
import Derived.Test.YtipigjckoejfpaaGreatAxEnterZ
import Derived.Test.YtipigjckoejfpaaGreatProg
import Derived.KernelRfl
set_option linter.unusedSimpArgs false
set_option linter.unusedVariables false
/- The code of functions of the program, for our abstract machine; each is tied to the program by a closed test. Written by gen.py. Conditions: none. -/
namespace Go.Proofs.YtipigjckoejfpaaGreat.Ax
open Go Go.Ax
set_option maxRecDepth 100000

def k28_0 : ACode :=
 .seq (.region [
 ⟨(some 25), .ld (some 5) (.t 3), none⟩,
 ⟨(some 26), .build [.int .i64 0, .int .u64 0, .int .i64 0] [(0, 1, (.c (.int .i64 1)))], none⟩,
 ⟨none, .st 5 (.t 6) (.t 25), none⟩,
 ⟨none, .st 3 (.t 7) (.t 26), none⟩])
 (.ret)

def k28_1 : ACode :=
 .seq (.region [
 ⟨(some 42), .ld (some 5) (.t 3), none⟩,
 ⟨(some 43), .mv (.t 10), none⟩,
 ⟨(some 44), .build [.int .i64 0, .int .u64 0, .int .i64 0] [(0, 1, (.t 43))], none⟩,
 ⟨none, .st 5 (.t 6) (.t 42), none⟩,
 ⟨none, .st 3 (.t 7) (.t 44), none⟩])
 (.ret)

def k28_2 : ACode :=
 .seq (.region [
 ⟨(some 49), .ld (some 5) (.t 3), none⟩,
 ⟨(some 50), .build [.int .i64 0, .int .u64 0, .int .i64 0] [(0, 1, (.c (.int .i64 7)))], none⟩,
 ⟨none, .st 5 (.t 6) (.t 49), none⟩,
 ⟨none, .st 3 (.t 7) (.t 50), none⟩])
 (.ret)

def k28_3 : ACode :=
 .seq (.region [
 ⟨(some 57), .ld (some 5) (.t 3), none⟩,
 ⟨(some 58), .build [.int .i64 0, .int .u64 0, .int .i64 0] [(0, 1, (.c (.int .i64 6)))], none⟩,
 ⟨none, .st 5 (.t 6) (.t 57), none⟩,
 ⟨none, .st 3 (.t 7) (.t 58), none⟩])
 (.ret)

def k28_4 : ACode :=
 .seq (.region [
 ⟨(some 52), .mv (.t 11), none⟩,
 ⟨(some 53), .fld 2 (.t 9), none⟩,
 ⟨(some 54), .ld none (.t 53), none⟩,
 ⟨(some 55), .call 104 [(.t 52), (.t 54)], none⟩,
 ⟨(some 56), .un .not (.t 55), none⟩,
 ⟨(some 51), .mv (.t 56), none⟩])
 (.cond (.t 51)
 k28_3
 (.skip))

def k28_5 : ACode :=
 .seq (.region [
 ⟨(some 46), .fld 0 (.t 9), none⟩,
 ⟨(some 47), .ld none (.t 46), none⟩,
 ⟨(some 48), .bin .neq (.t 47) (.c (.int .i64 3)), none⟩,
 ⟨(some 45), .mv (.t 48), none⟩])
 (.cond (.t 45)
 k28_2
 k28_4)

def k28_6 : ACode :=
 .seq (.region [
 ⟨(some 62), .ld (some 5) (.t 3), none⟩,
 ⟨(some 63), .mv (.t 1), none⟩,
 ⟨(some 64), .ld (some 6) (.t 5), none⟩,
 ⟨(some 65), .ld (some 4) (.t 9), none⟩,
 ⟨(some 66), .call 105 [(.t 62), (.t 63), (.t 64), (.t 65)], none⟩,
 ⟨(some 67), .ext (.t 66) 0, none⟩,
 ⟨(some 68), .ext (.t 66) 1, none⟩,
 ⟨none, .st 5 (.t 6) (.t 67), none⟩,
 ⟨none, .st 3 (.t 7) (.t 68), none⟩])
 (.ret)

def k28_7 : ACode :=
 .seq (.region [
 ⟨(some 69), .ld (some 5) (.t 3), none⟩,
 ⟨(some 70), .mv (.t 1), none⟩,
 ⟨(some 71), .ld (some 6) (.t 5), none⟩,
 ⟨(some 72), .ld (some 4) (.t 9), none⟩,
 ⟨(some 73), .call 106 [(.t 69), (.t 70), (.t 71), (.t 72)], none⟩,
 ⟨(some 74), .ext (.t 73) 0, none⟩,
 ⟨(some 75), .ext (.t 73) 1, none⟩,
 ⟨none, .st 5 (.t 6) (.t 74), none⟩,
 ⟨none, .st 3 (.t 7) (.t 75), none⟩])
 (.ret)

def k28_8 : ACode :=
 .seq (.seq (.region [
 ⟨(some 59), .fld 0 (.t 5), none⟩,
 ⟨(some 60), .ld none (.t 59), none⟩,
 ⟨(some 61), .bin .eql (.t 60) (.c (.int .i64 7)), none⟩])
 (.cond (.t 61)
 k28_6
 (.skip)))
 k28_7

def k28_9 : ACode :=
 .seq (.block 0 (
 .seq (.region [
 ⟨(some 40), .mv (.t 10), none⟩,
 ⟨(some 41), .bin .neq (.t 40) (.c (.int .i64 0)), none⟩,
 ⟨(some 39), .mv (.t 41), none⟩])
 (.cond (.t 39)
 k28_1
 k28_5)))
 k28_8

def k28_10 : ACode :=
 .seq (.seq (.region [
 ⟨(some 36), .fld 0 (.t 5), none⟩,
 ⟨(some 37), .ld none (.t 36), none⟩,
 ⟨(some 38), .bin .eql (.t 37) (.c (.int .i64 8)), none⟩])
 (.cond (.t 38)
 (.region [
 ⟨(some 11), .mv (.c (.int .i64 1)), none⟩])
 (.skip)))
 k28_9

def k28_11 : ACode :=
 .seq (.region [
 ⟨(some 28), .ld (some 5) (.t 3), none⟩,
 ⟨(some 29), .mv (.t 1), none⟩,
 ⟨(some 30), .fld 1 (.t 5), none⟩,
 ⟨(some 31), .ld (some 1) (.t 30), none⟩,
 ⟨(some 32), .call 65 [(.t 28), (.t 29), (.t 31)], none⟩,
 ⟨(some 27), .mv (.t 32), none⟩,
 ⟨(some 33), .ext (.t 27) 0, none⟩,
 ⟨(some 34), .ext (.t 27) 1, none⟩,
 ⟨(some 35), .ext (.t 27) 2, none⟩,
 ⟨(some 9), .new [.int .i64 0, .int .i64 0, .int .i64 0, .int .i64 0], none⟩,
 ⟨(some 8), .mv (.t 33), none⟩,
 ⟨none, .st 4 (.t 9) (.t 34), none⟩,
 ⟨(some 10), .mv (.t 35), none⟩])
 (.seq (.region [
 ⟨(some 11), .mv (.c (.int .i64 2)), none⟩])
 k28_10)

def k28_12 : ACode :=
 .seq (.seq (.region [
 ⟨(some 12), .ld (some 6) (.t 5), none⟩,
 ⟨(some 13), .call 79 [(.t 12)], none⟩,
 ⟨(some 14), .un .not (.t 13), none⟩,
 ⟨(some 15), .mv (.t 14), none⟩,
 ⟨(some 16), .fld 0 (.t 5), (some (15, false))⟩,
 ⟨(some 17), .ld none (.t 16), (some (15, false))⟩,
 ⟨(some 18), .bin .neq (.t 17) (.c (.int .i64 7)), (some (15, false))⟩,
 ⟨(some 19), .mv (.t 18), (some (15, false))⟩,
 ⟨(some 20), .fld 0 (.t 5), (some (19, true))⟩,
 ⟨(some 21), .ld none (.t 20), (some (19, true))⟩,
 ⟨(some 22), .bin .neq (.t 21) (.c (.int .i64 8)), (some (19, true))⟩,
 ⟨(some 23), .pick (.t 19) (.t 22) (.c (.bool false)), (some (15, false))⟩,
 ⟨(some 24), .pick (.t 15) (.c (.bool true)) (.t 23), none⟩])
 (.cond (.t 24)
 k28_0
 (.skip)))
 k28_11

def c28 : ACode :=
 .seq (.region [
 ⟨(some 3), .box (.t 0), none⟩,
 ⟨(some 5), .box (.t 2), none⟩,
 ⟨(some 6), .new [.int .i64 0, .int .i64 0, .int .i64 0, .lit (.slice none 0 0), .lit (.slice none 0 0)], none⟩,
 ⟨(some 7), .new [.int .i64 0, .int .u64 0, .int .i64 0], none⟩])
 k28_12
theorem ok28 : fnOk Tryz.prog 28 c28 76 [.c 6 (some 5), .c 7 (some 3)] = true := by kernel_rfl

def k43_0 : ACode :=
 .seq (.region [
 ⟨(some 19), .ld (some 5) (.t 3), none⟩,
 ⟨(some 20), .mv (.t 9), none⟩,
 ⟨(some 21), .build [.int .i64 0, .int .u64 0, .int .i64 0] [(0, 1, (.t 20))], none⟩,
 ⟨none, .st 5 (.t 6) (.t 19), none⟩,
 ⟨none, .st 3 (.t 7) (.t 21), none⟩])
 (.ret)

def k43_1 : ACode :=
 .seq (.region [
 ⟨(some 22), .ld (some 5) (.t 8), none⟩,
 ⟨(some 23), .build [.int .i64 0, .int .u64 0, .int .i64 0] [], none⟩,
 ⟨none, .st 5 (.t 6) (.t 22), none⟩,
 ⟨none, .st 3 (.t 7) (.t 23), none⟩])
 (.ret)

def k43_2 : ACode :=
 .seq (.seq (.region [
 ⟨(some 17), .mv (.t 9), none⟩,
 ⟨(some 18), .bin .neq (.t 17) (.c (.int .i64 0)), none⟩])
 (.cond (.t 18)
 k43_0
 (.skip)))
 k43_1

def k43_3 : ACode :=
 .seq (.region [
 ⟨(some 11), .ld (some 5) (.t 3), none⟩,
 ⟨(some 12), .mv (.t 1), none⟩,
 ⟨(some 13), .ld (some 6) (.t 5), none⟩,
 ⟨(some 14), .call 128 [(.t 11), (.t 12), (.t 13)], none⟩,
 ⟨(some 10), .mv (.t 14), none⟩,
 ⟨(some 15), .ext (.t 10) 0, none⟩,
 ⟨(some 16), .ext (.t 10) 1, none⟩,
 ⟨(some 8), .new [.int .i64 0, .int .i64 0, .int .i64 0, .lit (.slice none 0 0), .lit (.slice none 0 0)], none⟩,
 ⟨none, .st 5 (.t 8) (.t 15), none⟩,
 ⟨(some 9), .mv (.t 16), none⟩])
 k43_2

def c43 : ACode :=
 .seq (.region [
 ⟨(some 3), .box (.t 0), none⟩,
 ⟨(some 5), .box (.t 2), none⟩,
 ⟨(some 6), .new [.int .i64 0, .int .i64 0, .int .i64 0, .lit (.slice none 0 0), .lit (.slice none 0 0)], none⟩,
 ⟨(some 7), .new [.int .i64 0, .int .u64 0, .int .i64 0], none⟩])
 k43_3
theorem ok43 : fnOk Tryz.prog 43 c43 24 [.c 6 (some 5), .c 7 (some 3)] = true := by kernel_rfl

def k69_0 : ACode :=
 .seq (.region [
 ⟨(some 18), .ld (some 5) (.t 2), none⟩,
 ⟨none, .st 5 (.t 4) (.t 18), none⟩,
 ⟨(some 5), .mv (.c (.int .i64 0)), none⟩])
 (.ret)

def k69_1 : ACode :=
 .cond (.t 27)
 (.region [
 ⟨(some 28), .mv (.t 6), none⟩,
 ⟨(some 29), .bin .add (.t 28) (.c (.int .i64 1)), none⟩,
 ⟨(some 6), .mv (.t 29), none⟩])
 (.skip)

def k69_2 : ACode :=
 .seq (.region [
 ⟨(some 25), .ld (some 5) (.t 2), none⟩,
 ⟨(some 26), .mv (.t 8), none⟩,
 ⟨(some 27), .call 145 [(.t 25), (.t 26)], none⟩])
 k69_1

def k69_3 : ACode :=
 .seq (.block 1 (
 .seq (.region [
 ⟨(some 23), .ixs 1 (.t 19) (.t 21), none⟩,
 ⟨(some 24), .ld none (.t 23), none⟩,
 ⟨(some 8), .mv (.t 24), none⟩])
 k69_2))
 (.region [
 ⟨(some 30), .bin .add (.t 21) (.c (.int .i64 1)), none⟩,
 ⟨(some 21), .mv (.t 30), none⟩])

def b69_4 : ACode :=
 .seq (.region [
 ⟨(some 22), .bin .lss (.t 21) (.t 20), none⟩])
 (.seq (.cond (.t 22)
 (.skip)
 (.exit 0))
 k69_3)

def k69_5 : ACode :=
 .region [
 ⟨(some 47), .mv (.t 12), none⟩,
 ⟨(some 48), .mv (.t 47), none⟩,
 ⟨(some 49), .mv (.t 9), (some (48, false))⟩,
 ⟨(some 50), .pick (.t 48) (.c (.bool true)) (.t 49), none⟩,
 ⟨(some 9), .mv (.t 50), none⟩]

def k69_6 : ACode :=
 .seq (.region [
 ⟨(some 44), .mv (.t 6), none⟩,
 ⟨(some 45), .mv (.t 11), none⟩,
 ⟨(some 46), .bin .add (.t 44) (.t 45), none⟩,
 ⟨(some 6), .mv (.t 46), none⟩])
 k69_5

def k69_7 : ACode :=
 .seq (.region [
 ⟨(some 39), .ld (some 5) (.t 2), none⟩,
 ⟨(some 40), .mv (.t 10), none⟩,
 ⟨(some 41), .call 146 [(.t 39), (.t 40)], none⟩,
 ⟨(some 38), .mv (.t 41), none⟩,
 ⟨(some 42), .ext (.t 38) 0, none⟩,
 ⟨(some 43), .ext (.t 38) 1, none⟩,
 ⟨(some 11), .mv (.t 42), none⟩,
 ⟨(some 12), .mv (.t 43), none⟩])
 k69_6

def k69_8 : ACode :=
 .seq (.block 5 (
 .seq (.region [
 ⟨(some 37), .mv (.t 35), none⟩,
 ⟨(some 10), .mv (.t 37), none⟩])
 k69_7))
 (.region [
 ⟨(some 51), .bin .add (.t 35) (.c (.int .i64 1)), none⟩,
 ⟨(some 35), .mv (.t 51), none⟩])

def b69_9 : ACode :=
 .seq (.region [
 ⟨(some 36), .bin .lss (.t 35) (.t 34), none⟩])
 (.seq (.cond (.t 36)
 (.skip)
 (.exit 4))
 k69_8)

def k69_10 : ACode :=
 .seq (.region [
 ⟨(some 32), .fld 4 (.t 2), none⟩,
 ⟨(some 33), .ld none (.t 32), none⟩,
 ⟨(some 34), .len false (.t 33), none⟩,
 ⟨(some 35), .mv (.c (.int .i64 0)), none⟩])
 (.block 4 (
 .loop b69_9))

def b69_11 : ACode :=
 .seq (.seq (.region [
 ⟨(some 31), .mv (.t 9), none⟩])
 (.cond (.t 31)
 (.skip)
 (.exit 2)))
 (.block 3 (
 .seq (.region [
 ⟨(some 9), .mv (.c (.bool false)), none⟩])
 k69_10))

def k69_12 : ACode :=
 .seq (.region [
 ⟨(some 52), .ld (some 5) (.t 2), none⟩,
 ⟨(some 53), .mv (.t 6), none⟩,
 ⟨none, .st 5 (.t 4) (.t 52), none⟩,
 ⟨(some 5), .mv (.t 53), none⟩])
 (.ret)

def k69_13 : ACode :=
 .seq (.seq (.region [
 ⟨(some 9), .mv (.c (.bool true)), none⟩])
 (.block 2 (
 .loop b69_11)))
 k69_12

def k69_14 : ACode :=
 .seq (.seq (.region [
 ⟨(some 19), .mv (.t 1), none⟩,
 ⟨(some 20), .len false (.t 19), none⟩,
 ⟨(some 21), .mv (.c (.int .i64 0)), none⟩])
 (.block 0 (
 .loop b69_4)))
 k69_13

def k69_15 : ACode :=
 .seq (.seq (.region [
 ⟨(some 15), .ld (some 5) (.t 2), none⟩,
 ⟨(some 16), .call 26 [(.t 15)], none⟩,
 ⟨(some 17), .un .not (.t 16), none⟩])
 (.cond (.t 17)
 k69_0
 (.skip)))
 (.seq (.region [
 ⟨(some 6), .mv (.c (.int .i64 0)), none⟩])
 k69_14)

def k69_16 : ACode :=
 .seq (.region [
 ⟨(some 13), .ld (some 5) (.t 2), none⟩,
 ⟨(some 14), .call 27 [(.t 13)], none⟩,
 ⟨none, .st 5 (.t 2) (.t 14), none⟩])
 k69_15

def c69 : ACode :=
 .seq (.region [
 ⟨(some 2), .box (.t 0), none⟩,
 ⟨(some 4), .new [.int .i64 0, .int .i64 0, .int .i64 0, .lit (.slice none 0 0), .lit (.slice none 0 0)], none⟩,
 ⟨(some 5), .mv (.c (.int .i64 0)), none⟩])
 k69_16
theorem ok69 : fnOk Tryz.prog 69 c69 54 [.c 4 (some 5), .t 5] = true := by kernel_rfl

def k72_0 : ACode :=
 .seq (.region [
 ⟨(some 26), .ld (some 5) (.t 3), none⟩,
 ⟨(some 27), .build [.int .i64 0, .int .u64 0, .int .i64 0] [(0, 1, (.c (.int .i64 1)))], none⟩,
 ⟨none, .st 5 (.t 6) (.t 26), none⟩,
 ⟨none, .st 3 (.t 7) (.t 27), none⟩])
 (.ret)

def k72_1 : ACode :=
 .seq (.region [
 ⟨(some 39), .ld (some 5) (.t 3), none⟩,
 ⟨(some 40), .mv (.t 10), none⟩,
 ⟨(some 41), .build [.int .i64 0, .int .u64 0, .int .i64 0] [(0, 1, (.t 40))], none⟩,
 ⟨none, .st 5 (.t 6) (.t 39), none⟩,
 ⟨none, .st 3 (.t 7) (.t 41), none⟩])
 (.ret)

def k72_2 : ACode :=
 .region [
 ⟨(some 47), .ld (some 5) (.t 3), none⟩,
 ⟨(some 48), .call 100 [(.t 47)], none⟩,
 ⟨(some 49), .mv (.t 8), none⟩,
 ⟨(some 50), .call 147 [(.t 48), (.t 49)], none⟩,
 ⟨(some 11), .mv (.t 50), none⟩]

def k72_3 : ACode :=
 .seq (.region [
 ⟨(some 57), .ld (some 5) (.t 3), none⟩,
 ⟨(some 58), .mv (.t 12), none⟩,
 ⟨(some 59), .build [.int .i64 0, .int .u64 0, .int .i64 0] [(2, 1, (.t 58))], none⟩,
 ⟨none, .st 5 (.t 6) (.t 57), none⟩,
 ⟨none, .st 3 (.t 7) (.t 59), none⟩])
 (.ret)

def k72_4 : ACode :=
 .seq (.region [
 ⟨(some 52), .ld (some 5) (.t 3), none⟩,
 ⟨(some 53), .mv (.t 11), none⟩,
 ⟨(some 54), .call 69 [(.t 52), (.t 53)], none⟩,
 ⟨(some 51), .mv (.t 54), none⟩,
 ⟨(some 55), .ext (.t 51) 0, none⟩,
 ⟨(some 56), .ext (.t 51) 1, none⟩,
 ⟨none, .st 5 (.t 3) (.t 55), none⟩,
 ⟨(some 12), .mv (.t 56), none⟩])
 k72_3

def k72_5 : ACode :=
 .seq (.seq (.region [
 ⟨(some 44), .fld 0 (.t 5), none⟩,
 ⟨(some 45), .ld none (.t 44), none⟩,
 ⟨(some 46), .bin .eql (.t 45) (.c (.int .i64 6)), none⟩])
 (.cond (.t 46)
 k72_2
 (.skip)))
 k72_4

def k72_6 : ACode :=
 .seq (.region [
 ⟨(some 42), .mv (.t 8), none⟩,
 ⟨(some 43), .bsl 1 1 [.int .i64 0] [(0, (.t 42))], none⟩,
 ⟨(some 11), .mv (.t 43), none⟩])
 k72_5

def k72_7 : ACode :=
 .seq (.seq (.region [
 ⟨(some 37), .mv (.t 10), none⟩,
 ⟨(some 38), .bin .neq (.t 37) (.c (.int .i64 0)), none⟩])
 (.cond (.t 38)
 k72_1
 (.skip)))
 k72_6

def k72_8 : ACode :=
 .seq (.region [
 ⟨(some 29), .ld (some 5) (.t 3), none⟩,
 ⟨(some 30), .mv (.t 1), none⟩,
 ⟨(some 31), .fld 1 (.t 5), none⟩,
 ⟨(some 32), .ld (some 1) (.t 31), none⟩,
 ⟨(some 33), .call 65 [(.t 29), (.t 30), (.t 32)], none⟩,
 ⟨(some 28), .mv (.t 33), none⟩,
 ⟨(some 34), .ext (.t 28) 0, none⟩,
 ⟨(some 35), .ext (.t 28) 1, none⟩,
 ⟨(some 36), .ext (.t 28) 2, none⟩,
 ⟨(some 9), .new [.int .i64 0, .int .i64 0, .int .i64 0, .int .i64 0], none⟩,
 ⟨(some 8), .mv (.t 34), none⟩,
 ⟨none, .st 4 (.t 9) (.t 35), none⟩,
 ⟨(some 10), .mv (.t 36), none⟩])
 k72_7

def k72_9 : ACode :=
 .seq (.seq (.region [
 ⟨(some 13), .ld (some 6) (.t 5), none⟩,
 ⟨(some 14), .call 79 [(.t 13)], none⟩,
 ⟨(some 15), .un .not (.t 14), none⟩,
 ⟨(some 16), .mv (.t 15), none⟩,
 ⟨(some 17), .fld 0 (.t 5), (some (16, false))⟩,
 ⟨(some 18), .ld none (.t 17), (some (16, false))⟩,
 ⟨(some 19), .bin .neq (.t 18) (.c (.int .i64 5)), (some (16, false))⟩,
 ⟨(some 20), .mv (.t 19), (some (16, false))⟩,
 ⟨(some 21), .fld 0 (.t 5), (some (20, true))⟩,
 ⟨(some 22), .ld none (.t 21), (some (20, true))⟩,
 ⟨(some 23), .bin .neq (.t 22) (.c (.int .i64 6)), (some (20, true))⟩,
 ⟨(some 24), .pick (.t 20) (.t 23) (.c (.bool false)), (some (16, false))⟩,
 ⟨(some 25), .pick (.t 16) (.c (.bool true)) (.t 24), none⟩])
 (.cond (.t 25)
 k72_0
 (.skip)))
 k72_8

def c72 : ACode :=
 .seq (.region [
 ⟨(some 3), .box (.t 0), none⟩,
 ⟨(some 5), .box (.t 2), none⟩,
 ⟨(some 6), .new [.int .i64 0, .int .i64 0, .int .i64 0, .lit (.slice none 0 0), .lit (.slice none 0 0)], none⟩,
 ⟨(some 7), .new [.int .i64 0, .int .u64 0, .int .i64 0], none⟩])
 k72_9
theorem ok72 : fnOk Tryz.prog 72 c72 60 [.c 6 (some 5), .c 7 (some 3)] = true := by kernel_rfl

def k105_0 : ACode :=
 .seq (.region [
 ⟨(some 23), .ld (some 5) (.t 4), none⟩,
 ⟨(some 24), .build [.int .i64 0, .int .u64 0, .int .i64 0] [(0, 1, (.c (.int .i64 6)))], none⟩,
 ⟨none, .st 5 (.t 8) (.t 23), none⟩,
 ⟨none, .st 3 (.t 9) (.t 24), none⟩])
 (.ret)

def k105_1 : ACode :=
 .seq (.region [
 ⟨(some 37), .ld (some 5) (.t 4), none⟩,
 ⟨(some 38), .mv (.t 13), none⟩,
 ⟨(some 39), .build [.int .i64 0, .int .u64 0, .int .i64 0] [(0, 1, (.t 38))], none⟩,
 ⟨none, .st 5 (.t 8) (.t 37), none⟩,
 ⟨none, .st 3 (.t 9) (.t 39), none⟩])
 (.ret)

def k105_2 : ACode :=
 .seq (.region [
 ⟨(some 44), .ld (some 5) (.t 4), none⟩,
 ⟨(some 45), .build [.int .i64 0, .int .u64 0, .int .i64 0] [(0, 1, (.c (.int .i64 7)))], none⟩,
 ⟨none, .st 5 (.t 8) (.t 44), none⟩,
 ⟨none, .st 3 (.t 9) (.t 45), none⟩])
 (.ret)

def k105_3 : ACode :=
 .seq (.region [
 ⟨(some 41), .fld 0 (.t 12), none⟩,
 ⟨(some 42), .ld none (.t 41), none⟩,
 ⟨(some 43), .bin .eql (.t 42) (.c (.int .i64 1)), none⟩,
 ⟨(some 40), .mv (.t 43), none⟩])
 (.cond (.t 40)
 k105_2
 (.skip))

def k105_4 : ACode :=
 .seq (.block 0 (
 .seq (.region [
 ⟨(some 35), .mv (.t 13), none⟩,
 ⟨(some 36), .bin .neq (.t 35) (.c (.int .i64 0)), none⟩,
 ⟨(some 34), .mv (.t 36), none⟩])
 (.cond (.t 34)
 k105_1
 k105_3)))
 (.region [
 ⟨(some 46), .mv (.t 11), none⟩,
 ⟨(some 47), .bin .add (.t 46) (.c (.int .i64 1)), none⟩,
 ⟨(some 10), .mv (.t 47), none⟩])

def k105_5 : ACode :=
 .seq (.region [
 ⟨(some 26), .ld (some 5) (.t 4), none⟩,
 ⟨(some 27), .mv (.t 1), none⟩,
 ⟨(some 28), .fld 2 (.t 6), none⟩,
 ⟨(some 29), .ld (some 1) (.t 28), none⟩,
 ⟨(some 30), .call 65 [(.t 26), (.t 27), (.t 29)], none⟩,
 ⟨(some 25), .mv (.t 30), none⟩,
 ⟨(some 31), .ext (.t 25) 0, none⟩,
 ⟨(some 32), .ext (.t 25) 1, none⟩,
 ⟨(some 33), .ext (.t 25) 2, none⟩,
 ⟨(some 12), .new [.int .i64 0, .int .i64 0, .int .i64 0, .int .i64 0], none⟩,
 ⟨(some 11), .mv (.t 31), none⟩,
 ⟨none, .st 4 (.t 12) (.t 32), none⟩,
 ⟨(some 13), .mv (.t 33), none⟩])
 k105_4

def k105_6 : ACode :=
 .seq (.seq (.region [
 ⟨(some 19), .fld 2 (.t 7), none⟩,
 ⟨(some 20), .ld none (.t 19), none⟩,
 ⟨(some 21), .call 104 [(.c (.int .i64 4)), (.t 20)], none⟩,
 ⟨(some 22), .un .not (.t 21), none⟩])
 (.cond (.t 22)
 k105_0
 (.skip)))
 k105_5

def k105_7 : ACode :=
 .seq (.region [
 ⟨(some 55), .ld (some 5) (.t 4), none⟩,
 ⟨(some 56), .build [.int .i64 0, .int .u64 0, .int .i64 0] [(0, 1, (.c (.int .i64 13)))], none⟩,
 ⟨none, .st 5 (.t 8) (.t 55), none⟩,
 ⟨none, .st 3 (.t 9) (.t 56), none⟩])
 (.ret)

def k105_8 : ACode :=
 .seq (.region [
 ⟨(some 70), .ld (some 5) (.t 4), none⟩,
 ⟨(some 71), .build [.int .i64 0, .int .u64 0, .int .i64 0] [], none⟩,
 ⟨none, .st 5 (.t 8) (.t 70), none⟩,
 ⟨none, .st 3 (.t 9) (.t 71), none⟩])
 (.ret)

def k105_9 : ACode :=
 .seq (.region [
 ⟨(some 59), .fld 4 (.t 4), none⟩,
 ⟨(some 60), .ld none (.t 59), none⟩,
 ⟨(some 61), .fld 1 (.t 7), none⟩,
 ⟨(some 62), .ld none (.t 61), none⟩,
 ⟨(some 63), .fld 5 (.t 6), none⟩,
 ⟨(some 64), .ld none (.t 63), none⟩,
 ⟨(some 65), .fld 3 (.t 7), none⟩,
 ⟨(some 66), .ld none (.t 65), none⟩,
 ⟨(some 67), .mv (.t 10), none⟩,
 ⟨(some 68), .build [.int .i64 0, .int .i64 0, .int .i64 0, .int .i64 0, .int .i64 0, .int .i64 0, .int .i64 0, .bool false, .int .u64 0, .int .u64 0, .int .u64 0, .int .u64 0, .int .u64 0] [(0, 1, (.c (.int .i64 3))), (7, 1, (.c (.bool true))), (8, 1, (.t 64)), (6, 1, (.t 66)), (5, 1, (.t 67))], none⟩,
 ⟨(some 69), .ixs 13 (.t 60) (.t 62), none⟩,
 ⟨none, .st 13 (.t 69) (.t 68), none⟩])
 k105_8

def k105_10 : ACode :=
 .seq (.region [
 ⟨(some 57), .ld (some 5) (.t 4), none⟩,
 ⟨(some 58), .call 27 [(.t 57)], none⟩,
 ⟨none, .st 5 (.t 4) (.t 58), none⟩])
 k105_9

def k105_11 : ACode :=
 .seq (.seq (.region [
 ⟨(some 48), .fld 4 (.t 4), none⟩,
 ⟨(some 49), .ld none (.t 48), none⟩,
 ⟨(some 50), .fld 1 (.t 7), none⟩,
 ⟨(some 51), .ld none (.t 50), none⟩,
 ⟨(some 52), .ixs 13 (.t 49) (.t 51), none⟩,
 ⟨(some 53), .fld 7 (.t 52), none⟩,
 ⟨(some 54), .ld none (.t 53), none⟩])
 (.cond (.t 54)
 k105_7
 (.skip)))
 k105_10

def k105_12 : ACode :=
 .seq (.seq (.region [
 ⟨(some 14), .fld 2 (.t 6), none⟩,
 ⟨(some 15), .fld 0 (.t 14), none⟩,
 ⟨(some 16), .ld none (.t 15), none⟩,
 ⟨(some 17), .len false (.t 16), none⟩,
 ⟨(some 18), .bin .gtr (.t 17) (.c (.int .i64 0)), none⟩])
 (.cond (.t 18)
 k105_6
 (.skip)))
 k105_11

def c105 : ACode :=
 .seq (.region [
 ⟨(some 4), .box (.t 0), none⟩,
 ⟨(some 6), .box (.t 2), none⟩,
 ⟨(some 7), .box (.t 3), none⟩,
 ⟨(some 8), .new [.int .i64 0, .int .i64 0, .int .i64 0, .lit (.slice none 0 0), .lit (.slice none 0 0)], none⟩,
 ⟨(some 9), .new [.int .i64 0, .int .u64 0, .int .i64 0], none⟩])
 (.seq (.region [
 ⟨(some 10), .mv (.c (.int .i64 0)), none⟩])
 k105_12)
theorem ok105 : fnOk Tryz.prog 105 c105 72 [.c 8 (some 5), .c 9 (some 3)] = true := by kernel_rfl

def k106_0 : ACode :=
 .seq (.region [
 ⟨(some 23), .ld (some 5) (.t 4), none⟩,
 ⟨(some 24), .build [.int .i64 0, .int .u64 0, .int .i64 0] [(0, 1, (.c (.int .i64 14)))], none⟩,
 ⟨none, .st 5 (.t 8) (.t 23), none⟩,
 ⟨none, .st 3 (.t 9) (.t 24), none⟩])
 (.ret)

def k106_1 : ACode :=
 .seq (.region [
 ⟨(some 47), .ld (some 5) (.t 4), none⟩,
 ⟨(some 48), .mv (.t 13), none⟩,
 ⟨(some 49), .build [.int .i64 0, .int .u64 0, .int .i64 0] [(0, 1, (.t 48))], none⟩,
 ⟨none, .st 5 (.t 8) (.t 47), none⟩,
 ⟨none, .st 3 (.t 9) (.t 49), none⟩])
 (.ret)

def k106_2 : ACode :=
 .seq (.region [
 ⟨(some 69), .ld (some 5) (.t 4), none⟩,
 ⟨(some 70), .mv (.t 13), none⟩,
 ⟨(some 71), .build [.int .i64 0, .int .u64 0, .int .i64 0] [(0, 1, (.t 70))], none⟩,
 ⟨none, .st 5 (.t 8) (.t 69), none⟩,
 ⟨none, .st 3 (.t 9) (.t 71), none⟩])
 (.ret)

def k106_3 : ACode :=
 .seq (.region [
 ⟨(some 67), .mv (.t 13), none⟩,
 ⟨(some 68), .bin .neq (.t 67) (.c (.int .i64 0)), none⟩])
 (.cond (.t 68)
 k106_2
 (.skip))

def k106_4 : ACode :=
 .seq (.drawn [
 (0, ⟨(some 51), .ld (some 5) (.t 4), none⟩),
 (1, ⟨(some 52), .fld 5 (.t 10), none⟩),
 (2, ⟨(some 53), .ld none (.t 52), none⟩),
 (5, ⟨(some 56), .fld 3 (.t 4), none⟩),
 (6, ⟨(some 57), .ld none (.t 56), none⟩),
 (7, ⟨(some 58), .fld 5 (.t 10), none⟩),
 (8, ⟨(some 59), .ld none (.t 58), none⟩),
 (9, ⟨(some 60), .bin .sub (.t 59) (.c (.int .i64 1)), none⟩),
 (10, ⟨(some 61), .ixs 5 (.t 57) (.t 60), none⟩),
 (11, ⟨(some 62), .fld 0 (.t 61), none⟩),
 (12, ⟨(some 63), .ld (some 4) (.t 62), none⟩),
 (3, ⟨(some 54), .bin .sub (.t 53) (.c (.int .i64 1)), none⟩),
 (4, ⟨(some 55), .mv (.t 12), none⟩),
 (13, ⟨(some 64), .call 178 [(.t 51), (.t 54), (.t 55), (.t 63)], none⟩),
 (14, ⟨(some 50), .mv (.t 64), none⟩),
 (15, ⟨(some 65), .ext (.t 50) 0, none⟩),
 (17, ⟨none, .st 5 (.t 11) (.t 65), none⟩),
 (16, ⟨(some 66), .ext (.t 50) 1, none⟩),
 (18, ⟨(some 13), .mv (.t 66), none⟩)]
 [[], [], [1], [2], [], [], [5], [], [7], [8], [6, 9], [10], [11], [0, 3, 4, 12], [13], [14], [14], [15, 13, 0, 1, 2, 3, 4, 5, 6, 7, 8, 9, 10, 11, 12, 13, 14, 15], [16, 17, 0, 1, 2, 3, 4, 5, 6, 7, 8, 9, 10, 11, 12, 13, 14, 15, 16, 17]] 0)
 k106_3

def k106_5 : ACode :=
 .seq (.seq (.region [
 ⟨(some 45), .mv (.t 13), none⟩,
 ⟨(some 46), .bin .neq (.t 45) (.c (.int .i64 0)), none⟩])
 (.cond (.t 46)
 k106_1
 (.skip)))
 k106_4

def k106_6 : ACode :=
 .seq (.region [
 ⟨(some 38), .ld (some 5) (.t 4), none⟩,
 ⟨(some 39), .mv (.t 1), none⟩,
 ⟨(some 40), .fld 2 (.t 6), none⟩,
 ⟨(some 41), .ld (some 1) (.t 40), none⟩,
 ⟨(some 42), .call 177 [(.t 38), (.t 39), (.t 41)], none⟩,
 ⟨(some 37), .mv (.t 42), none⟩,
 ⟨(some 43), .ext (.t 37) 0, none⟩,
 ⟨(some 44), .ext (.t 37) 1, none⟩,
 ⟨(some 12), .mv (.t 43), none⟩,
 ⟨(some 13), .mv (.t 44), none⟩])
 k106_5

def k106_7 : ACode :=
 .seq (.drawn [
 (0, ⟨(some 78), .ld (some 5) (.t 11), none⟩),
 (1, ⟨(some 79), .fld 8 (.t 10), none⟩),
 (2, ⟨(some 80), .ld none (.t 79), none⟩),
 (3, ⟨(some 81), .fld 6 (.t 10), none⟩),
 (4, ⟨(some 82), .ld none (.t 81), none⟩),
 (6, ⟨none, .st 5 (.t 8) (.t 78), none⟩),
 (5, ⟨(some 83), .build [.int .i64 0, .int .u64 0, .int .i64 0] [(1, 1, (.t 80)), (2, 1, (.t 82))], none⟩),
 (7, ⟨none, .st 3 (.t 9) (.t 83), none⟩)]
 [[], [], [1], [], [3], [2, 4], [0, 0], [5, 6, 0, 1, 2, 3, 4, 5, 6]] 0)
 (.ret)

def k106_8 : ACode :=
 .seq (.region [
 ⟨(some 72), .fld 4 (.t 11), none⟩,
 ⟨(some 73), .ld none (.t 72), none⟩,
 ⟨(some 74), .fld 1 (.t 7), none⟩,
 ⟨(some 75), .ld none (.t 74), none⟩,
 ⟨(some 76), .build [.int .i64 0, .int .i64 0, .int .i64 0, .int .i64 0, .int .i64 0, .int .i64 0, .int .i64 0, .bool false, .int .u64 0, .int .u64 0, .int .u64 0, .int .u64 0, .int .u64 0] [(0, 1, (.c (.int .i64 3)))], none⟩,
 ⟨(some 77), .ixs 13 (.t 73) (.t 75), none⟩,
 ⟨none, .st 13 (.t 77) (.t 76), none⟩])
 k106_7

def k106_9 : ACode :=
 .seq (.seq (.region [
 ⟨(some 27), .fld 2 (.t 6), none⟩,
 ⟨(some 28), .fld 0 (.t 27), none⟩,
 ⟨(some 29), .ld none (.t 28), none⟩,
 ⟨(some 30), .len false (.t 29), none⟩,
 ⟨(some 31), .bin .gtr (.t 30) (.c (.int .i64 0)), none⟩,
 ⟨(some 32), .mv (.t 31), none⟩,
 ⟨(some 33), .fld 5 (.t 10), (some (32, true))⟩,
 ⟨(some 34), .ld none (.t 33), (some (32, true))⟩,
 ⟨(some 35), .bin .gtr (.t 34) (.c (.int .i64 0)), (some (32, true))⟩,
 ⟨(some 36), .pick (.t 32) (.t 35) (.c (.bool false)), none⟩])
 (.cond (.t 36)
 k106_6
 (.skip)))
 k106_8

def k106_10 : ACode :=
 .seq (.region [
 ⟨(some 25), .ld (some 5) (.t 4), none⟩,
 ⟨(some 26), .call 27 [(.t 25)], none⟩,
 ⟨(some 11), .new [.int .i64 0, .int .i64 0, .int .i64 0, .lit (.slice none 0 0), .lit (.slice none 0 0)], none⟩,
 ⟨none, .st 5 (.t 11) (.t 26), none⟩])
 k106_9

def k106_11 : ACode :=
 .seq (.seq (.region [
 ⟨(some 20), .fld 7 (.t 10), none⟩,
 ⟨(some 21), .ld none (.t 20), none⟩,
 ⟨(some 22), .un .not (.t 21), none⟩])
 (.cond (.t 22)
 k106_0
 (.skip)))
 k106_10

def k106_12 : ACode :=
 .seq (.region [
 ⟨(some 14), .fld 4 (.t 4), none⟩,
 ⟨(some 15), .ld none (.t 14), none⟩,
 ⟨(some 16), .fld 1 (.t 7), none⟩,
 ⟨(some 17), .ld none (.t 16), none⟩,
 ⟨(some 18), .ixs 13 (.t 15) (.t 17), none⟩,
 ⟨(some 19), .ld (some 13) (.t 18), none⟩,
 ⟨(some 10), .new [.int .i64 0, .int .i64 0, .int .i64 0, .int .i64 0, .int .i64 0, .int .i64 0, .int .i64 0, .bool false, .int .u64 0, .int .u64 0, .int .u64 0, .int .u64 0, .int .u64 0], none⟩,
 ⟨none, .st 13 (.t 10) (.t 19), none⟩])
 k106_11

def c106 : ACode :=
 .seq (.region [
 ⟨(some 4), .box (.t 0), none⟩,
 ⟨(some 6), .box (.t 2), none⟩,
 ⟨(some 7), .box (.t 3), none⟩,
 ⟨(some 8), .new [.int .i64 0, .int .i64 0, .int .i64 0, .lit (.slice none 0 0), .lit (.slice none 0 0)], none⟩,
 ⟨(some 9), .new [.int .i64 0, .int .u64 0, .int .i64 0], none⟩])
 k106_12
theorem ok106 : fnOk Tryz.prog 106 c106 84 [.c 8 (some 5), .c 9 (some 3)] = true := by kernel_rfl

def k128_0 : ACode :=
 .seq (.region [
 ⟨(some 30), .ld (some 5) (.t 3), none⟩,
 ⟨none, .st 5 (.t 6) (.t 30), none⟩,
 ⟨(some 7), .mv (.c (.int .i64 1)), none⟩])
 (.ret)

def k128_1 : ACode :=
 .seq (.region [
 ⟨(some 42), .ld (some 5) (.t 3), none⟩,
 ⟨(some 43), .mv (.t 10), none⟩,
 ⟨none, .st 5 (.t 6) (.t 42), none⟩,
 ⟨(some 7), .mv (.t 43), none⟩])
 (.ret)

def k128_2 : ACode :=
 .region [
 ⟨(some 47), .ld (some 4) (.t 9), none⟩,
 ⟨(some 48), .fld 3 (.t 5), none⟩,
 ⟨(some 49), .ld none (.t 48), none⟩,
 ⟨(some 50), .call 210 [(.t 47), (.t 49)], none⟩,
 ⟨none, .st 4 (.t 9) (.t 50), none⟩]

def k128_3 : ACode :=
 .seq (.region [
 ⟨(some 63), .ld (some 5) (.t 3), none⟩,
 ⟨(some 64), .mv (.t 10), none⟩,
 ⟨none, .st 5 (.t 6) (.t 63), none⟩,
 ⟨(some 7), .mv (.t 64), none⟩])
 (.ret)

def k128_4 : ACode :=
 .seq (.region [
 ⟨(some 61), .mv (.t 10), none⟩,
 ⟨(some 62), .bin .neq (.t 61) (.c (.int .i64 0)), none⟩])
 (.cond (.t 62)
 k128_3
 (.skip))

def k128_5 : ACode :=
 .seq (.region [
 ⟨(some 55), .ld (some 4) (.t 9), none⟩,
 ⟨(some 56), .fld 4 (.t 5), none⟩,
 ⟨(some 57), .ld none (.t 56), none⟩,
 ⟨(some 58), .call 211 [(.t 55), (.t 57)], none⟩,
 ⟨(some 54), .mv (.t 58), none⟩,
 ⟨(some 59), .ext (.t 54) 0, none⟩,
 ⟨(some 60), .ext (.t 54) 1, none⟩,
 ⟨none, .st 4 (.t 9) (.t 59), none⟩,
 ⟨(some 10), .mv (.t 60), none⟩])
 k128_4

def k128_6 : ACode :=
 .seq (.region [
 ⟨(some 75), .ld (some 5) (.t 3), none⟩,
 ⟨(some 76), .mv (.t 10), none⟩,
 ⟨none, .st 5 (.t 6) (.t 75), none⟩,
 ⟨(some 7), .mv (.t 76), none⟩])
 (.ret)

def k128_7 : ACode :=
 .seq (.region [
 ⟨(some 80), .ld (some 5) (.t 3), none⟩,
 ⟨(some 81), .mv (.t 8), none⟩,
 ⟨(some 82), .mv (.t 11), none⟩,
 ⟨(some 83), .ld (some 4) (.t 9), none⟩,
 ⟨(some 84), .call 178 [(.t 80), (.t 81), (.t 82), (.t 83)], none⟩,
 ⟨(some 85), .ext (.t 84) 0, none⟩,
 ⟨(some 86), .ext (.t 84) 1, none⟩,
 ⟨none, .st 5 (.t 6) (.t 85), none⟩,
 ⟨(some 7), .mv (.t 86), none⟩])
 (.ret)

def k128_8 : ACode :=
 .seq (.region [
 ⟨(some 91), .ld (some 5) (.t 3), none⟩,
 ⟨none, .st 5 (.t 6) (.t 91), none⟩,
 ⟨(some 7), .mv (.c (.int .i64 1)), none⟩])
 (.ret)

def k128_9 : ACode :=
 .seq (.region [
 ⟨(some 92), .ld (some 5) (.t 3), none⟩,
 ⟨(some 93), .mv (.t 8), none⟩,
 ⟨(some 94), .mv (.t 11), none⟩,
 ⟨(some 95), .call 213 [(.t 92), (.t 93), (.t 94)], none⟩,
 ⟨none, .st 5 (.t 6) (.t 95), none⟩,
 ⟨(some 7), .mv (.c (.int .i64 0)), none⟩])
 (.ret)

def k128_10 : ACode :=
 .seq (.seq (.region [
 ⟨(some 87), .ld (some 5) (.t 3), none⟩,
 ⟨(some 88), .ld (some 4) (.t 9), none⟩,
 ⟨(some 89), .mv (.t 11), none⟩,
 ⟨(some 90), .call 212 [(.t 87), (.t 88), (.t 89)], none⟩])
 (.cond (.t 90)
 k128_8
 (.skip)))
 k128_9

def k128_11 : ACode :=
 .seq (.seq (.region [
 ⟨(some 77), .fld 0 (.t 5), none⟩,
 ⟨(some 78), .ld none (.t 77), none⟩,
 ⟨(some 79), .bin .neq (.t 78) (.c (.int .i64 4)), none⟩])
 (.cond (.t 79)
 k128_7
 (.skip)))
 k128_10

def k128_12 : ACode :=
 .seq (.seq (.region [
 ⟨(some 73), .mv (.t 10), none⟩,
 ⟨(some 74), .bin .neq (.t 73) (.c (.int .i64 0)), none⟩])
 (.cond (.t 74)
 k128_6
 (.skip)))
 k128_11

def k128_13 : ACode :=
 .seq (.region [
 ⟨(some 66), .ld (some 5) (.t 3), none⟩,
 ⟨(some 67), .mv (.t 1), none⟩,
 ⟨(some 68), .fld 2 (.t 5), none⟩,
 ⟨(some 69), .ld (some 1) (.t 68), none⟩,
 ⟨(some 70), .call 177 [(.t 66), (.t 67), (.t 69)], none⟩,
 ⟨(some 65), .mv (.t 70), none⟩,
 ⟨(some 71), .ext (.t 65) 0, none⟩,
 ⟨(some 72), .ext (.t 65) 1, none⟩,
 ⟨(some 11), .mv (.t 71), none⟩,
 ⟨(some 10), .mv (.t 72), none⟩])
 k128_12

def k128_14 : ACode :=
 .seq (.seq (.region [
 ⟨(some 51), .fld 0 (.t 5), none⟩,
 ⟨(some 52), .ld none (.t 51), none⟩,
 ⟨(some 53), .bin .eql (.t 52) (.c (.int .i64 3)), none⟩])
 (.cond (.t 53)
 k128_5
 (.skip)))
 k128_13

def k128_15 : ACode :=
 .seq (.seq (.region [
 ⟨(some 44), .fld 0 (.t 5), none⟩,
 ⟨(some 45), .ld none (.t 44), none⟩,
 ⟨(some 46), .bin .neq (.t 45) (.c (.int .i64 4)), none⟩])
 (.cond (.t 46)
 k128_2
 (.skip)))
 k128_14

def k128_16 : ACode :=
 .seq (.seq (.region [
 ⟨(some 40), .mv (.t 10), none⟩,
 ⟨(some 41), .bin .neq (.t 40) (.c (.int .i64 0)), none⟩])
 (.cond (.t 41)
 k128_1
 (.skip)))
 k128_15

def k128_17 : ACode :=
 .seq (.region [
 ⟨(some 32), .ld (some 5) (.t 3), none⟩,
 ⟨(some 33), .mv (.t 1), none⟩,
 ⟨(some 34), .fld 1 (.t 5), none⟩,
 ⟨(some 35), .ld (some 1) (.t 34), none⟩,
 ⟨(some 36), .call 65 [(.t 32), (.t 33), (.t 35)], none⟩,
 ⟨(some 31), .mv (.t 36), none⟩,
 ⟨(some 37), .ext (.t 31) 0, none⟩,
 ⟨(some 38), .ext (.t 31) 1, none⟩,
 ⟨(some 39), .ext (.t 31) 2, none⟩,
 ⟨(some 9), .new [.int .i64 0, .int .i64 0, .int .i64 0, .int .i64 0], none⟩,
 ⟨(some 8), .mv (.t 37), none⟩,
 ⟨none, .st 4 (.t 9) (.t 38), none⟩,
 ⟨(some 10), .mv (.t 39), none⟩])
 k128_16

def k128_18 : ACode :=
 .seq (.seq (.region [
 ⟨(some 12), .ld (some 6) (.t 5), none⟩,
 ⟨(some 13), .call 79 [(.t 12)], none⟩,
 ⟨(some 14), .un .not (.t 13), none⟩,
 ⟨(some 15), .mv (.t 14), none⟩,
 ⟨(some 16), .fld 0 (.t 5), (some (15, false))⟩,
 ⟨(some 17), .ld none (.t 16), (some (15, false))⟩,
 ⟨(some 18), .bin .neq (.t 17) (.c (.int .i64 2)), (some (15, false))⟩,
 ⟨(some 19), .mv (.t 18), (some (15, false))⟩,
 ⟨(some 20), .fld 0 (.t 5), (some (19, true))⟩,
 ⟨(some 21), .ld none (.t 20), (some (19, true))⟩,
 ⟨(some 22), .bin .neq (.t 21) (.c (.int .i64 3)), (some (19, true))⟩,
 ⟨(some 23), .pick (.t 19) (.t 22) (.c (.bool false)), (some (15, false))⟩,
 ⟨(some 24), .mv (.t 23), (some (15, false))⟩,
 ⟨(some 25), .fld 0 (.t 5), (some (24, true))⟩,
 ⟨(some 26), .ld none (.t 25), (some (24, true))⟩,
 ⟨(some 27), .bin .neq (.t 26) (.c (.int .i64 4)), (some (24, true))⟩,
 ⟨(some 28), .pick (.t 24) (.t 27) (.c (.bool false)), (some (15, false))⟩,
 ⟨(some 29), .pick (.t 15) (.c (.bool true)) (.t 28), none⟩])
 (.cond (.t 29)
 k128_0
 (.skip)))
 k128_17

def c128 : ACode :=
 .seq (.region [
 ⟨(some 3), .box (.t 0), none⟩,
 ⟨(some 5), .box (.t 2), none⟩,
 ⟨(some 6), .new [.int .i64 0, .int .i64 0, .int .i64 0, .lit (.slice none 0 0), .lit (.slice none 0 0)], none⟩,
 ⟨(some 7), .mv (.c (.int .i64 0)), none⟩])
 k128_18
theorem ok128 : fnOk Tryz.prog 128 c128 96 [.c 6 (some 5), .t 7] = true := by kernel_rfl

def k145_0 : ACode :=
 .cond (.t 24)
 (.seq (.region [
 ⟨(some 4), .mv (.c (.bool false)), none⟩])
 (.ret))
 (.skip)

def k145_1 : ACode :=
 .drawn [
 (0, ⟨(some 39), .fld 3 (.t 2), none⟩),
 (1, ⟨(some 40), .ld none (.t 39), none⟩),
 (3, ⟨(some 42), .fld 3 (.t 2), none⟩),
 (4, ⟨(some 43), .ld none (.t 42), none⟩),
 (5, ⟨(some 44), .mv (.t 1), none⟩),
 (6, ⟨(some 45), .ixs 5 (.t 43) (.t 44), none⟩),
 (7, ⟨(some 46), .fld 4 (.t 45), none⟩),
 (8, ⟨(some 47), .ld none (.t 46), none⟩),
 (2, ⟨(some 41), .mv (.t 5), none⟩),
 (9, ⟨(some 48), .ixs 5 (.t 40) (.t 41), none⟩),
 (10, ⟨(some 49), .fld 4 (.t 48), none⟩),
 (11, ⟨none, .st 1 (.t 49) (.t 47), none⟩)]
 [[], [0], [], [], [3], [], [4, 5], [6], [7], [1, 2, 0, 1, 2, 3, 4, 5, 6, 7, 8], [9, 0, 1, 2, 3, 4, 5, 6, 7, 8], [10, 8, 0, 1, 2, 3, 4, 5, 6, 7, 8]] 0

def k145_2 : ACode :=
 .seq (.region [
 ⟨(some 31), .fld 3 (.t 2), none⟩,
 ⟨(some 32), .ld none (.t 31), none⟩,
 ⟨(some 33), .mv (.t 5), none⟩,
 ⟨(some 34), .ixs 5 (.t 32) (.t 33), none⟩,
 ⟨(some 35), .fld 4 (.t 34), none⟩,
 ⟨(some 36), .ld none (.t 35), none⟩,
 ⟨(some 37), .mv (.t 1), none⟩,
 ⟨(some 38), .bin .eql (.t 36) (.t 37), none⟩])
 (.cond (.t 38)
 k145_1
 (.skip))

def k145_3 : ACode :=
 .seq (.block 1 (
 .seq (.region [
 ⟨(some 30), .mv (.t 28), none⟩,
 ⟨(some 5), .mv (.t 30), none⟩])
 k145_2))
 (.region [
 ⟨(some 50), .bin .add (.t 28) (.c (.int .i64 1)), none⟩,
 ⟨(some 28), .mv (.t 50), none⟩])

def b145_4 : ACode :=
 .seq (.region [
 ⟨(some 29), .bin .lss (.t 28) (.t 27), none⟩])
 (.seq (.cond (.t 29)
 (.skip)
 (.exit 0))
 k145_3)

def k145_5 : ACode :=
 .region [
 ⟨(some 71), .fld 4 (.t 2), none⟩,
 ⟨(some 72), .ld none (.t 71), none⟩,
 ⟨(some 73), .mv (.t 6), none⟩,
 ⟨(some 74), .ixs 13 (.t 72) (.t 73), none⟩,
 ⟨(some 75), .fld 5 (.t 74), none⟩,
 ⟨none, .st 1 (.t 75) (.c (.int .i64 0)), none⟩]

def k145_6 : ACode :=
 .seq (.region [
 ⟨(some 62), .fld 4 (.t 2), none⟩,
 ⟨(some 63), .ld none (.t 62), none⟩,
 ⟨(some 64), .mv (.t 6), none⟩,
 ⟨(some 65), .ixs 13 (.t 63) (.t 64), none⟩,
 ⟨(some 66), .fld 5 (.t 65), none⟩,
 ⟨(some 67), .ld none (.t 66), none⟩,
 ⟨(some 68), .mv (.t 1), none⟩,
 ⟨(some 69), .bin .add (.t 68) (.c (.int .i64 1)), none⟩,
 ⟨(some 70), .bin .eql (.t 67) (.t 69), none⟩])
 (.cond (.t 70)
 k145_5
 (.skip))

def k145_7 : ACode :=
 .seq (.block 3 (
 .seq (.region [
 ⟨(some 61), .mv (.t 59), none⟩,
 ⟨(some 6), .mv (.t 61), none⟩])
 k145_6))
 (.region [
 ⟨(some 76), .bin .add (.t 59) (.c (.int .i64 1)), none⟩,
 ⟨(some 59), .mv (.t 76), none⟩])

def b145_8 : ACode :=
 .seq (.region [
 ⟨(some 60), .bin .lss (.t 59) (.t 58), none⟩])
 (.seq (.cond (.t 60)
 (.skip)
 (.exit 2))
 k145_7)

def k145_9 : ACode :=
 .seq (.seq (.region [
 ⟨(some 56), .fld 4 (.t 2), none⟩,
 ⟨(some 57), .ld none (.t 56), none⟩,
 ⟨(some 58), .len false (.t 57), none⟩,
 ⟨(some 59), .mv (.c (.int .i64 0)), none⟩])
 (.block 2 (
 .loop b145_8)))
 (.seq (.region [
 ⟨(some 4), .mv (.c (.bool true)), none⟩])
 (.ret))

def k145_10 : ACode :=
 .seq (.region [
 ⟨(some 51), .fld 3 (.t 2), none⟩,
 ⟨(some 52), .ld none (.t 51), none⟩,
 ⟨(some 53), .mv (.t 1), none⟩,
 ⟨(some 54), .build [.int .i64 0, .int .i64 0, .int .i64 0, .int .i64 0, .int .i64 0] [(4, 1, (.c (.int .i64 (-1))))], none⟩,
 ⟨(some 55), .ixs 5 (.t 52) (.t 53), none⟩,
 ⟨none, .st 5 (.t 55) (.t 54), none⟩])
 k145_9

def k145_11 : ACode :=
 .seq (.seq (.region [
 ⟨(some 25), .fld 3 (.t 2), none⟩,
 ⟨(some 26), .ld none (.t 25), none⟩,
 ⟨(some 27), .len false (.t 26), none⟩,
 ⟨(some 28), .mv (.c (.int .i64 0)), none⟩])
 (.block 0 (
 .loop b145_4)))
 k145_10

def k145_12 : ACode :=
 .seq (.seq (.region [
 ⟨(some 7), .mv (.t 1), none⟩,
 ⟨(some 8), .bin .lss (.t 7) (.c (.int .i64 0)), none⟩,
 ⟨(some 9), .mv (.t 8), none⟩,
 ⟨(some 10), .mv (.t 1), (some (9, false))⟩,
 ⟨(some 11), .fld 3 (.t 2), (some (9, false))⟩,
 ⟨(some 12), .ld none (.t 11), (some (9, false))⟩,
 ⟨(some 13), .len false (.t 12), (some (9, false))⟩,
 ⟨(some 14), .bin .geq (.t 10) (.t 13), (some (9, false))⟩,
 ⟨(some 15), .pick (.t 9) (.c (.bool true)) (.t 14), none⟩,
 ⟨(some 16), .mv (.t 15), none⟩,
 ⟨(some 17), .fld 3 (.t 2), (some (16, false))⟩,
 ⟨(some 18), .ld none (.t 17), (some (16, false))⟩,
 ⟨(some 19), .mv (.t 1), (some (16, false))⟩,
 ⟨(some 20), .ixs 5 (.t 18) (.t 19), (some (16, false))⟩,
 ⟨(some 21), .fld 0 (.t 20), (some (16, false))⟩,
 ⟨(some 22), .ld (some 4) (.t 21), (some (16, false))⟩,
 ⟨(some 23), .call 68 [(.t 22)], (some (16, false))⟩,
 ⟨(some 24), .pick (.t 16) (.c (.bool true)) (.t 23), none⟩])
 k145_0)
 k145_11

def c145 : ACode :=
 .seq (.region [
 ⟨(some 2), .box (.t 0), none⟩,
 ⟨(some 4), .mv (.c (.bool false)), none⟩])
 k145_12
theorem ok145 : fnOk Tryz.prog 145 c145 77 [.t 4] = true := by kernel_rfl

def k146_0 : ACode :=
 .cond (.t 35)
 (.seq (.region [
 ⟨(some 4), .mv (.c (.int .i64 0)), none⟩,
 ⟨(some 5), .mv (.c (.bool false)), none⟩])
 (.ret))
 (.skip)

def k146_1 : ACode :=
 .cond (.t 52)
 (.region [
 ⟨(some 53), .mv (.t 8), none⟩,
 ⟨(some 54), .bin .add (.t 53) (.c (.int .i64 1)), none⟩,
 ⟨(some 8), .mv (.t 54), none⟩])
 (.skip)

def k146_2 : ACode :=
 .seq (.region [
 ⟨(some 42), .fld 0 (.t 6), none⟩,
 ⟨(some 43), .ld none (.t 42), none⟩,
 ⟨(some 44), .bin .eql (.t 43) (.c (.int .i64 2)), none⟩,
 ⟨(some 45), .mv (.t 44), none⟩,
 ⟨(some 46), .ld (some 5) (.t 2), (some (45, true))⟩,
 ⟨(some 47), .fld 2 (.t 6), (some (45, true))⟩,
 ⟨(some 48), .ld none (.t 47), (some (45, true))⟩,
 ⟨(some 49), .mv (.t 9), (some (45, true))⟩,
 ⟨(some 50), .bin .add (.t 48) (.t 49), (some (45, true))⟩,
 ⟨(some 51), .call 145 [(.t 46), (.t 50)], (some (45, true))⟩,
 ⟨(some 52), .pick (.t 45) (.t 51) (.c (.bool false)), none⟩])
 k146_1

def k146_3 : ACode :=
 .seq (.block 1 (
 .seq (.region [
 ⟨(some 41), .mv (.t 39), none⟩,
 ⟨(some 9), .mv (.t 41), none⟩])
 k146_2))
 (.region [
 ⟨(some 55), .bin .add (.t 39) (.c (.int .i64 1)), none⟩,
 ⟨(some 39), .mv (.t 55), none⟩])

def b146_4 : ACode :=
 .seq (.region [
 ⟨(some 40), .bin .lss (.t 39) (.t 38), none⟩])
 (.seq (.cond (.t 40)
 (.skip)
 (.exit 0))
 k146_3)

def k146_5 : ACode :=
 .seq (.region [
 ⟨(some 61), .mv (.t 8), none⟩,
 ⟨(some 4), .mv (.t 61), none⟩,
 ⟨(some 5), .mv (.c (.bool true)), none⟩])
 (.ret)

def k146_6 : ACode :=
 .seq (.region [
 ⟨(some 56), .fld 4 (.t 2), none⟩,
 ⟨(some 57), .ld none (.t 56), none⟩,
 ⟨(some 58), .mv (.t 1), none⟩,
 ⟨(some 59), .build [.int .i64 0, .int .i64 0, .int .i64 0, .int .i64 0, .int .i64 0, .int .i64 0, .int .i64 0, .bool false, .int .u64 0, .int .u64 0, .int .u64 0, .int .u64 0, .int .u64 0] [], none⟩,
 ⟨(some 60), .ixs 13 (.t 57) (.t 58), none⟩,
 ⟨none, .st 13 (.t 60) (.t 59), none⟩])
 k146_5

def k146_7 : ACode :=
 .seq (.seq (.region [
 ⟨(some 36), .fld 1 (.t 6), none⟩,
 ⟨(some 37), .ld none (.t 36), none⟩,
 ⟨(some 38), .bin .shl (.c (.int .i64 1)) (.t 37), none⟩,
 ⟨(some 39), .mv (.c (.int .i64 0)), none⟩])
 (.block 0 (
 .loop b146_4)))
 k146_6

def k146_8 : ACode :=
 .seq (.seq (.region [
 ⟨(some 25), .fld 0 (.t 6), none⟩,
 ⟨(some 26), .ld none (.t 25), none⟩,
 ⟨(some 27), .bin .eql (.t 26) (.c (.int .i64 0)), none⟩,
 ⟨(some 28), .mv (.t 27), none⟩,
 ⟨(some 29), .mv (.t 7), (some (28, false))⟩,
 ⟨(some 30), .pick (.t 28) (.c (.bool true)) (.t 29), none⟩,
 ⟨(some 31), .mv (.t 30), none⟩,
 ⟨(some 32), .ld (some 5) (.t 2), (some (31, false))⟩,
 ⟨(some 33), .mv (.t 1), (some (31, false))⟩,
 ⟨(some 34), .call 220 [(.t 32), (.t 33)], (some (31, false))⟩,
 ⟨(some 35), .pick (.t 31) (.c (.bool true)) (.t 34), none⟩])
 k146_0)
 (.seq (.region [
 ⟨(some 8), .mv (.c (.int .i64 0)), none⟩])
 k146_7)

def k146_9 : ACode :=
 .seq (.region [
 ⟨(some 15), .mv (.t 1), none⟩,
 ⟨(some 16), .bin .geq (.t 15) (.c (.int .i64 2)), none⟩,
 ⟨(some 17), .mv (.t 16), none⟩,
 ⟨(some 18), .mv (.t 1), (some (17, true))⟩,
 ⟨(some 19), .fld 0 (.t 2), (some (17, true))⟩,
 ⟨(some 20), .fld 0 (.t 19), (some (17, true))⟩,
 ⟨(some 21), .ld none (.t 20), (some (17, true))⟩,
 ⟨(some 22), .bin .add (.c (.int .i64 2)) (.t 21), (some (17, true))⟩,
 ⟨(some 23), .bin .lss (.t 18) (.t 22), (some (17, true))⟩,
 ⟨(some 24), .pick (.t 17) (.t 23) (.c (.bool false)), none⟩,
 ⟨(some 7), .mv (.t 24), none⟩])
 k146_8

def k146_10 : ACode :=
 .seq (.region [
 ⟨(some 10), .fld 4 (.t 2), none⟩,
 ⟨(some 11), .ld none (.t 10), none⟩,
 ⟨(some 12), .mv (.t 1), none⟩,
 ⟨(some 13), .ixs 13 (.t 11) (.t 12), none⟩,
 ⟨(some 14), .ld (some 13) (.t 13), none⟩,
 ⟨(some 6), .new [.int .i64 0, .int .i64 0, .int .i64 0, .int .i64 0, .int .i64 0, .int .i64 0, .int .i64 0, .bool false, .int .u64 0, .int .u64 0, .int .u64 0, .int .u64 0, .int .u64 0], none⟩,
 ⟨none, .st 13 (.t 6) (.t 14), none⟩])
 k146_9

def c146 : ACode :=
 .seq (.region [
 ⟨(some 2), .box (.t 0), none⟩,
 ⟨(some 4), .mv (.c (.int .i64 0)), none⟩,
 ⟨(some 5), .mv (.c (.bool false)), none⟩])
 k146_10
theorem ok146 : fnOk Tryz.prog 146 c146 62 [.t 4, .t 5] = true := by kernel_rfl

def k178_0 : ACode :=
 .region [
 ⟨(some 43), .ld (some 5) (.t 4), none⟩,
 ⟨(some 44), .mv (.t 2), none⟩,
 ⟨(some 45), .call 239 [(.t 43), (.t 44)], none⟩,
 ⟨(some 46), .bin .lss (.t 45) (.c (.int .i64 0)), none⟩,
 ⟨(some 14), .mv (.t 46), none⟩]

def k178_1 : ACode :=
 .seq (.region [
 ⟨(some 18), .mv (.t 1), none⟩,
 ⟨(some 19), .bin .lss (.t 18) (.c (.int .i64 0)), none⟩,
 ⟨(some 20), .mv (.t 19), none⟩,
 ⟨(some 21), .mv (.t 1), (some (20, false))⟩,
 ⟨(some 22), .mv (.t 10), (some (20, false))⟩,
 ⟨(some 23), .bin .geq (.t 21) (.t 22), (some (20, false))⟩,
 ⟨(some 24), .pick (.t 20) (.c (.bool true)) (.t 23), none⟩,
 ⟨(some 25), .mv (.t 24), none⟩,
 ⟨(some 26), .mv (.t 2), (some (25, false))⟩,
 ⟨(some 27), .bin .lss (.t 26) (.c (.int .i64 0)), (some (25, false))⟩,
 ⟨(some 28), .pick (.t 25) (.c (.bool true)) (.t 27), none⟩,
 ⟨(some 29), .mv (.t 28), none⟩,
 ⟨(some 30), .mv (.t 2), (some (29, false))⟩,
 ⟨(some 31), .mv (.t 10), (some (29, false))⟩,
 ⟨(some 32), .bin .geq (.t 30) (.t 31), (some (29, false))⟩,
 ⟨(some 33), .pick (.t 29) (.c (.bool true)) (.t 32), none⟩,
 ⟨(some 34), .mv (.t 33), none⟩,
 ⟨(some 35), .ld (some 4) (.t 7), (some (34, false))⟩,
 ⟨(some 36), .call 51 [(.t 35)], (some (34, false))⟩,
 ⟨(some 37), .un .not (.t 36), (some (34, false))⟩,
 ⟨(some 38), .pick (.t 34) (.c (.bool true)) (.t 37), none⟩,
 ⟨(some 39), .mv (.t 38), none⟩,
 ⟨(some 40), .ld (some 4) (.t 7), (some (39, false))⟩,
 ⟨(some 41), .call 68 [(.t 40)], (some (39, false))⟩,
 ⟨(some 42), .pick (.t 39) (.c (.bool true)) (.t 41), none⟩,
 ⟨(some 14), .mv (.t 42), none⟩])
 (.cond (.t 14)
 (.skip)
 k178_0)

def k178_2 : ACode :=
 .seq (.region [
 ⟨(some 47), .ld (some 5) (.t 4), none⟩,
 ⟨none, .st 5 (.t 8) (.t 47), none⟩,
 ⟨(some 9), .mv (.c (.int .i64 1)), none⟩])
 (.ret)

def k178_3 : ACode :=
 .seq (.region [
 ⟨(some 56), .ld (some 5) (.t 4), none⟩,
 ⟨none, .st 5 (.t 8) (.t 56), none⟩,
 ⟨(some 9), .mv (.c (.int .i64 4)), none⟩])
 (.ret)

def k178_4 : ACode :=
 .seq (.region [
 ⟨(some 66), .ld (some 5) (.t 4), none⟩,
 ⟨none, .st 5 (.t 8) (.t 66), none⟩,
 ⟨(some 9), .mv (.c (.int .i64 5)), none⟩])
 (.ret)

def k178_5 : ACode :=
 .seq (.region [
 ⟨(some 76), .ld (some 5) (.t 4), none⟩,
 ⟨none, .st 5 (.t 8) (.t 76), none⟩,
 ⟨(some 9), .mv (.c (.int .i64 7)), none⟩])
 (.ret)

def k178_6 : ACode :=
 .region [
 ⟨(some 87), .ld (some 5) (.t 4), none⟩,
 ⟨(some 88), .ld (some 4) (.t 7), none⟩,
 ⟨(some 89), .mv (.t 2), none⟩,
 ⟨(some 90), .call 212 [(.t 87), (.t 88), (.t 89)], none⟩,
 ⟨(some 77), .mv (.t 90), none⟩]

def k178_7 : ACode :=
 .seq (.region [
 ⟨(some 91), .ld (some 5) (.t 4), none⟩,
 ⟨none, .st 5 (.t 8) (.t 91), none⟩,
 ⟨(some 9), .mv (.c (.int .i64 1)), none⟩])
 (.ret)

def k178_8 : ACode :=
 .seq (.seq (.drawn [
 (0, ⟨(some 78), .ld (some 4) (.t 7), none⟩),
 (1, ⟨(some 79), .fld 3 (.t 4), none⟩),
 (2, ⟨(some 80), .ld none (.t 79), none⟩),
 (3, ⟨(some 81), .mv (.t 1), none⟩),
 (4, ⟨(some 82), .ixs 5 (.t 80) (.t 81), none⟩),
 (5, ⟨(some 83), .fld 0 (.t 82), none⟩),
 (6, ⟨(some 84), .ld (some 4) (.t 83), none⟩),
 (7, ⟨(some 85), .call 93 [(.t 78), (.t 84)], none⟩),
 (8, ⟨(some 86), .un .not (.t 85), none⟩),
 (9, ⟨(some 77), .mv (.t 86), none⟩)]
 [[], [], [1], [], [2, 3], [4], [5], [0, 6], [7], [8, 7]] 0)
 (.cond (.t 77)
 (.skip)
 k178_6))
 (.cond (.t 77)
 k178_7
 (.skip))

def k178_9 : ACode :=
 .seq (.region [
 ⟨(some 68), .fld 3 (.t 4), none⟩,
 ⟨(some 69), .ld none (.t 68), none⟩,
 ⟨(some 70), .mv (.t 1), none⟩,
 ⟨(some 71), .ixs 5 (.t 69) (.t 70), none⟩,
 ⟨(some 72), .fld 0 (.t 71), none⟩,
 ⟨(some 73), .fld 0 (.t 72), none⟩,
 ⟨(some 74), .ld none (.t 73), none⟩,
 ⟨(some 75), .bin .eql (.t 74) (.c (.int .i64 1)), none⟩,
 ⟨(some 67), .mv (.t 75), none⟩])
 (.cond (.t 67)
 k178_5
 k178_8)

def k178_10 : ACode :=
 .seq (.region [
 ⟨(some 58), .fld 3 (.t 4), none⟩,
 ⟨(some 59), .ld none (.t 58), none⟩,
 ⟨(some 60), .mv (.t 2), none⟩,
 ⟨(some 61), .ixs 5 (.t 59) (.t 60), none⟩,
 ⟨(some 62), .fld 0 (.t 61), none⟩,
 ⟨(some 63), .ld (some 4) (.t 62), none⟩,
 ⟨(some 64), .call 68 [(.t 63)], none⟩,
 ⟨(some 65), .un .not (.t 64), none⟩,
 ⟨(some 57), .mv (.t 65), none⟩])
 (.cond (.t 57)
 k178_4
 k178_9)

def k178_11 : ACode :=
 .seq (.region [
 ⟨(some 49), .fld 3 (.t 4), none⟩,
 ⟨(some 50), .ld none (.t 49), none⟩,
 ⟨(some 51), .mv (.t 1), none⟩,
 ⟨(some 52), .ixs 5 (.t 50) (.t 51), none⟩,
 ⟨(some 53), .fld 0 (.t 52), none⟩,
 ⟨(some 54), .ld (some 4) (.t 53), none⟩,
 ⟨(some 55), .call 68 [(.t 54)], none⟩,
 ⟨(some 48), .mv (.t 55), none⟩])
 (.cond (.t 48)
 k178_3
 k178_10)

def k178_12 : ACode :=
 .seq (.region [
 ⟨(some 101), .ld (some 5) (.t 4), none⟩,
 ⟨none, .st 5 (.t 8) (.t 101), none⟩,
 ⟨(some 9), .mv (.c (.int .i64 0)), none⟩])
 (.ret)

def k178_13 : ACode :=
 .seq (.region [
 ⟨(some 94), .fld 3 (.t 4), none⟩,
 ⟨(some 95), .ld none (.t 94), none⟩,
 ⟨(some 96), .mv (.t 2), none⟩,
 ⟨(some 97), .ld (some 4) (.t 7), none⟩,
 ⟨(some 98), .mv (.t 1), none⟩,
 ⟨(some 99), .build [.int .i64 0, .int .i64 0, .int .i64 0, .int .i64 0, .int .i64 0] [(0, 4, (.t 97)), (4, 1, (.t 98))], none⟩,
 ⟨(some 100), .ixs 5 (.t 95) (.t 96), none⟩,
 ⟨none, .st 5 (.t 100) (.t 99), none⟩])
 k178_12

def k178_14 : ACode :=
 .seq (.region [
 ⟨(some 92), .ld (some 5) (.t 4), none⟩,
 ⟨(some 93), .call 27 [(.t 92)], none⟩,
 ⟨none, .st 5 (.t 4) (.t 93), none⟩])
 k178_13

def k178_15 : ACode :=
 .seq (.block 0 (
 .seq (.seq (.region [
 ⟨(some 15), .ld (some 5) (.t 4), none⟩,
 ⟨(some 16), .call 26 [(.t 15)], none⟩,
 ⟨(some 17), .un .not (.t 16), none⟩,
 ⟨(some 14), .mv (.t 17), none⟩])
 (.cond (.t 14)
 (.skip)
 k178_1))
 (.cond (.t 14)
 k178_2
 k178_11)))
 k178_14

def k178_16 : ACode :=
 .seq (.region [
 ⟨(some 11), .fld 3 (.t 4), none⟩,
 ⟨(some 12), .ld none (.t 11), none⟩,
 ⟨(some 13), .len false (.t 12), none⟩,
 ⟨(some 10), .mv (.t 13), none⟩])
 k178_15

def c178 : ACode :=
 .seq (.region [
 ⟨(some 4), .box (.t 0), none⟩,
 ⟨(some 7), .box (.t 3), none⟩,
 ⟨(some 8), .new [.int .i64 0, .int .i64 0, .int .i64 0, .lit (.slice none 0 0), .lit (.slice none 0 0)], none⟩,
 ⟨(some 9), .mv (.c (.int .i64 0)), none⟩])
 k178_16
theorem ok178 : fnOk Tryz.prog 178 c178 102 [.c 8 (some 5), .t 9] = true := by kernel_rfl

def k212_0 : ACode :=
 .seq (.region [
 ⟨(some 7), .fld 0 (.t 4), none⟩,
 ⟨(some 8), .ld none (.t 7), none⟩,
 ⟨(some 9), .bin .eql (.t 8) (.c (.int .i64 2)), none⟩,
 ⟨(some 10), .mv (.t 9), none⟩,
 ⟨(some 11), .ld (some 5) (.t 3), (some (10, true))⟩,
 ⟨(some 12), .fld 1 (.t 4), (some (10, true))⟩,
 ⟨(some 13), .ld none (.t 12), (some (10, true))⟩,
 ⟨(some 14), .mv (.t 2), (some (10, true))⟩,
 ⟨(some 15), .call 249 [(.t 11), (.t 13), (.t 14)], (some (10, true))⟩,
 ⟨(some 16), .pick (.t 10) (.t 15) (.c (.bool false)), none⟩,
 ⟨(some 6), .mv (.t 16), none⟩])
 (.ret)

def c212 : ACode :=
 .seq (.region [
 ⟨(some 3), .box (.t 0), none⟩,
 ⟨(some 4), .box (.t 1), none⟩,
 ⟨(some 6), .mv (.c (.bool false)), none⟩])
 k212_0
theorem ok212 : fnOk Tryz.prog 212 c212 17 [.t 6] = true := by kernel_rfl

def k213_0 : ACode :=
 .region [
 ⟨(some 47), .fld 3 (.t 3), none⟩,
 ⟨(some 48), .ld none (.t 47), none⟩,
 ⟨(some 49), .mv (.t 9), none⟩,
 ⟨(some 50), .mv (.t 10), none⟩,
 ⟨(some 51), .mxn true [(.t 50), (.c (.int .i64 (-1)))], none⟩,
 ⟨(some 52), .ixs 5 (.t 48) (.t 49), none⟩,
 ⟨(some 53), .fld 4 (.t 52), none⟩,
 ⟨none, .st 1 (.t 53) (.t 51), none⟩]

def k213_1 : ACode :=
 .seq (.block 1 (
 .seq (.region [
 ⟨(some 44), .mv (.t 42), none⟩,
 ⟨(some 45), .ixs 1 (.t 40) (.t 42), none⟩,
 ⟨(some 46), .ld none (.t 45), none⟩,
 ⟨(some 9), .mv (.t 44), none⟩,
 ⟨(some 10), .mv (.t 46), none⟩])
 k213_0))
 (.region [
 ⟨(some 54), .bin .add (.t 42) (.c (.int .i64 1)), none⟩,
 ⟨(some 42), .mv (.t 54), none⟩])

def b213_2 : ACode :=
 .seq (.region [
 ⟨(some 43), .bin .lss (.t 42) (.t 41), none⟩])
 (.seq (.cond (.t 43)
 (.skip)
 (.exit 0))
 k213_1)

def k213_3 : ACode :=
 .region [
 ⟨(some 70), .fld 4 (.t 3), none⟩,
 ⟨(some 71), .ld none (.t 70), none⟩,
 ⟨(some 72), .mv (.t 11), none⟩,
 ⟨(some 73), .mv (.t 2), none⟩,
 ⟨(some 74), .bin .add (.t 73) (.c (.int .i64 1)), none⟩,
 ⟨(some 75), .ixs 13 (.t 71) (.t 72), none⟩,
 ⟨(some 76), .fld 5 (.t 75), none⟩,
 ⟨none, .st 1 (.t 76) (.t 74), none⟩]

def k213_4 : ACode :=
 .seq (.region [
 ⟨(some 61), .fld 4 (.t 3), none⟩,
 ⟨(some 62), .ld none (.t 61), none⟩,
 ⟨(some 63), .mv (.t 11), none⟩,
 ⟨(some 64), .ixs 13 (.t 62) (.t 63), none⟩,
 ⟨(some 65), .fld 5 (.t 64), none⟩,
 ⟨(some 66), .ld none (.t 65), none⟩,
 ⟨(some 67), .mv (.t 1), none⟩,
 ⟨(some 68), .bin .add (.t 67) (.c (.int .i64 1)), none⟩,
 ⟨(some 69), .bin .eql (.t 66) (.t 68), none⟩])
 (.cond (.t 69)
 k213_3
 (.skip))

def k213_5 : ACode :=
 .seq (.block 3 (
 .seq (.region [
 ⟨(some 60), .mv (.t 58), none⟩,
 ⟨(some 11), .mv (.t 60), none⟩])
 k213_4))
 (.region [
 ⟨(some 77), .bin .add (.t 58) (.c (.int .i64 1)), none⟩,
 ⟨(some 58), .mv (.t 77), none⟩])

def b213_6 : ACode :=
 .seq (.region [
 ⟨(some 59), .bin .lss (.t 58) (.t 57), none⟩])
 (.seq (.cond (.t 59)
 (.skip)
 (.exit 2))
 k213_5)

def k213_7 : ACode :=
 .seq (.seq (.region [
 ⟨(some 55), .fld 4 (.t 3), none⟩,
 ⟨(some 56), .ld none (.t 55), none⟩,
 ⟨(some 57), .len false (.t 56), none⟩,
 ⟨(some 58), .mv (.c (.int .i64 0)), none⟩])
 (.block 2 (
 .loop b213_6)))
 (.seq (.region [
 ⟨(some 78), .ld (some 5) (.t 3), none⟩,
 ⟨none, .st 5 (.t 6) (.t 78), none⟩])
 (.ret))

def k213_8 : ACode :=
 .seq (.seq (.region [
 ⟨(some 39), .fld 0 (.t 7), none⟩,
 ⟨(some 40), .ld none (.t 39), none⟩,
 ⟨(some 41), .len false (.t 40), none⟩,
 ⟨(some 42), .mv (.c (.int .i64 0)), none⟩])
 (.block 0 (
 .loop b213_2)))
 k213_7

def k213_9 : ACode :=
 .seq (.drawn [
 (0, ⟨(some 22), .fld 3 (.t 3), none⟩),
 (1, ⟨(some 23), .ld none (.t 22), none⟩),
 (3, ⟨(some 25), .fld 3 (.t 3), none⟩),
 (4, ⟨(some 26), .ld none (.t 25), none⟩),
 (6, ⟨(some 28), .fld 3 (.t 3), none⟩),
 (7, ⟨(some 29), .ld none (.t 28), none⟩),
 (8, ⟨(some 30), .mv (.t 1), none⟩),
 (9, ⟨(some 31), .ixs 5 (.t 29) (.t 30), none⟩),
 (10, ⟨(some 32), .fld 0 (.t 31), none⟩),
 (11, ⟨(some 33), .ld (some 4) (.t 32), none⟩),
 (2, ⟨(some 24), .mv (.t 2), none⟩),
 (13, ⟨(some 35), .ixs 5 (.t 23) (.t 24), none⟩),
 (14, ⟨(some 36), .fld 0 (.t 35), none⟩),
 (15, ⟨none, .st 4 (.t 36) (.t 33), none⟩),
 (5, ⟨(some 27), .mv (.t 1), none⟩),
 (12, ⟨(some 34), .build [.int .i64 0, .int .i64 0, .int .i64 0, .int .i64 0] [], none⟩),
 (16, ⟨(some 37), .ixs 5 (.t 26) (.t 27), none⟩),
 (17, ⟨(some 38), .fld 0 (.t 37), none⟩),
 (18, ⟨none, .st 4 (.t 38) (.t 34), none⟩)]
 [[], [0], [], [], [3], [], [], [6], [], [7, 8], [9], [10], [], [1, 2, 0, 1, 2, 6, 7, 8, 9, 10, 11], [13, 0, 1, 2, 6, 7, 8, 9, 10, 11], [14, 11, 0, 1, 2, 6, 7, 8, 9, 10, 11], [4, 5, 0, 1, 2, 3, 4, 5, 6, 7, 8, 9, 10, 11, 12, 13, 14, 15], [16, 0, 1, 2, 3, 4, 5, 6, 7, 8, 9, 10, 11, 12, 13, 14, 15], [17, 12, 15, 0, 1, 2, 3, 4, 5, 6, 7, 8, 9, 10, 11, 12, 13, 14, 15]] 0)
 k213_8

def k213_10 : ACode :=
 .seq (.region [
 ⟨(some 20), .ld (some 5) (.t 3), none⟩,
 ⟨(some 21), .call 27 [(.t 20)], none⟩,
 ⟨none, .st 5 (.t 3) (.t 21), none⟩])
 k213_9

def k213_11 : ACode :=
 .seq (.region [
 ⟨(some 13), .ld (some 5) (.t 3), none⟩,
 ⟨(some 14), .call 100 [(.t 13)], none⟩,
 ⟨(some 15), .mv (.t 1), none⟩,
 ⟨(some 16), .mv (.t 2), none⟩,
 ⟨(some 17), .call 250 [(.t 14), (.t 15), (.t 16)], none⟩,
 ⟨(some 12), .mv (.t 17), none⟩,
 ⟨(some 18), .ext (.t 12) 0, none⟩,
 ⟨(some 19), .ext (.t 12) 1, none⟩,
 ⟨(some 7), .new [.lit (.slice none 0 0)], none⟩,
 ⟨none, .st 1 (.t 7) (.t 18), none⟩,
 ⟨(some 8), .mv (.t 19), none⟩])
 k213_10

def c213 : ACode :=
 .seq (.region [
 ⟨(some 3), .box (.t 0), none⟩,
 ⟨(some 6), .new [.int .i64 0, .int .i64 0, .int .i64 0, .lit (.slice none 0 0), .lit (.slice none 0 0)], none⟩])
 k213_11
theorem ok213 : fnOk Tryz.prog 213 c213 79 [.c 6 (some 5)] = true := by kernel_rfl

def k220_0 : ACode :=
 .seq (.region [
 ⟨(some 5), .fld 3 (.t 2), none⟩,
 ⟨(some 6), .ld none (.t 5), none⟩,
 ⟨(some 7), .mkf 252 [(.t 3)], none⟩,
 ⟨(some 8), .call 251 [(.t 6), (.t 7)], none⟩,
 ⟨(some 4), .mv (.t 8), none⟩])
 (.ret)

def c220 : ACode :=
 .seq (.region [
 ⟨(some 2), .box (.t 0), none⟩,
 ⟨(some 3), .box (.t 1), none⟩,
 ⟨(some 4), .mv (.c (.bool false)), none⟩])
 k220_0
theorem ok220 : fnOk Tryz.prog 220 c220 9 [.t 4] = true := by kernel_rfl

def k252_0 : ACode :=
 .seq (.region [
 ⟨(some 4), .fld 0 (.t 2), none⟩,
 ⟨(some 5), .ld (some 4) (.t 4), none⟩,
 ⟨(some 6), .call 68 [(.t 5)], none⟩,
 ⟨(some 7), .un .not (.t 6), none⟩,
 ⟨(some 8), .mv (.t 7), none⟩,
 ⟨(some 9), .fld 0 (.t 2), (some (8, true))⟩,
 ⟨(some 10), .fld 1 (.t 9), (some (8, true))⟩,
 ⟨(some 11), .ld none (.t 10), (some (8, true))⟩,
 ⟨(some 12), .ld none (.t 1), (some (8, true))⟩,
 ⟨(some 13), .bin .eql (.t 11) (.t 12), (some (8, true))⟩,
 ⟨(some 14), .pick (.t 8) (.t 13) (.c (.bool false)), none⟩,
 ⟨(some 3), .mv (.t 14), none⟩])
 (.ret)

def c252 : ACode :=
 .seq (.region [
 ⟨(some 2), .box (.t 0), none⟩,
 ⟨(some 3), .mv (.c (.bool false)), none⟩])
 k252_0
theorem ok252 : fnOk Tryz.prog 252 c252 15 [.t 3] = true := by kernel_rfl

end Go.Proofs.YtipigjckoejfpaaGreat.Ax

/- The code of functions of the program, for our abstract machine; each is tied to the program by a closed test. Written by gen.py. Conditions: none. -/
namespace Go.Proofs.YtipigjckoejfpaaGreat.Ax
open Go Go.Ax
set_option maxRecDepth 100000

def k3_0 : ACode :=
 .cond (.t 13)
 (.seq (.region [
 ⟨(some 6), .mv (.c (.bool false)), none⟩])
 (.ret))
 (.skip)

def k3_1 : ACode :=
 .cond (.t 21)
 (.seq (.region [
 ⟨(some 6), .mv (.c (.bool true)), none⟩])
 (.ret))
 (.skip)

def k3_2 : ACode :=
 .region [
 ⟨(some 49), .ld (some 5) (.t 3), none⟩,
 ⟨(some 50), .call 30 [(.t 49)], none⟩,
 ⟨(some 51), .build [.int .i64 0, .int .u64 0, .int .i64 0] [(0, 1, (.c (.int .i64 1)))], none⟩,
 ⟨none, .st 5 (.t 10) (.t 50), none⟩,
 ⟨none, .st 3 (.t 11) (.t 51), none⟩]

def k3_3 : ACode :=
 .seq (.drawn [
 (0, ⟨(some 52), .ld (some 3) (.t 9), none⟩),
 (1, ⟨(some 53), .ld (some 3) (.t 11), none⟩),
 (2, ⟨(some 54), .call 32 [(.t 52), (.t 53)], none⟩),
 (3, ⟨(some 55), .mv (.t 54), none⟩),
 (4, ⟨(some 56), .ld (some 5) (.t 8), (some (55, true))⟩),
 (6, ⟨(some 58), .ld (some 5) (.t 10), (some (55, true))⟩),
 (5, ⟨(some 57), .call 30 [(.t 56)], (some (55, true))⟩),
 (7, ⟨(some 59), .call 33 [(.t 57), (.t 58)], (some (55, true))⟩),
 (8, ⟨(some 60), .pick (.t 55) (.t 59) (.c (.bool false)), none⟩),
 (9, ⟨(some 61), .mv (.t 60), none⟩),
 (10, ⟨(some 62), .ld (some 5) (.t 3), (some (61, true))⟩),
 (11, ⟨(some 63), .ld (some 5) (.t 7), (some (61, true))⟩),
 (12, ⟨(some 64), .call 34 [(.t 62), (.t 63)], (some (61, true))⟩),
 (13, ⟨(some 65), .pick (.t 61) (.t 64) (.c (.bool false)), none⟩),
 (14, ⟨(some 66), .mv (.t 65), none⟩),
 (15, ⟨(some 67), .ld (some 5) (.t 8), (some (66, true))⟩),
 (16, ⟨(some 68), .call 26 [(.t 67)], (some (66, true))⟩),
 (17, ⟨(some 69), .pick (.t 66) (.t 68) (.c (.bool false)), none⟩),
 (18, ⟨(some 6), .mv (.t 69), none⟩)]
 [[], [], [0, 1], [2, 2], [3], [4, 3, 3], [3], [5, 6, 5, 3], [3, 7], [8, 7], [9], [9], [10, 11, 9, 9], [9, 12], [13, 12], [14], [15, 14, 14], [14, 16], [17, 16, 0, 1, 2, 3, 4, 5, 6, 7, 8, 9, 10, 11, 12, 13, 14, 15, 16, 17]] 0)
 (.ret)

def k3_4 : ACode :=
 .seq (.seq (.region [
 ⟨(some 40), .fld 0 (.t 5), none⟩,
 ⟨(some 41), .ld none (.t 40), none⟩,
 ⟨(some 42), .bin .eql (.t 41) (.c (.int .i64 7)), none⟩,
 ⟨(some 43), .mv (.t 42), none⟩,
 ⟨(some 44), .fld 0 (.t 5), (some (43, false))⟩,
 ⟨(some 45), .ld none (.t 44), (some (43, false))⟩,
 ⟨(some 46), .bin .eql (.t 45) (.c (.int .i64 8)), (some (43, false))⟩,
 ⟨(some 47), .pick (.t 43) (.c (.bool true)) (.t 46), none⟩,
 ⟨(some 48), .un .not (.t 47), none⟩])
 (.cond (.t 48)
 k3_2
 (.skip)))
 k3_3

def k3_5 : ACode :=
 .seq (.drawn [
 (0, ⟨(some 32), .ld (some 5) (.t 3), none⟩),
 (3, ⟨(some 35), .ld (some 6) (.t 5), none⟩),
 (1, ⟨(some 33), .call 30 [(.t 32)], none⟩),
 (4, ⟨(some 36), .call 31 [(.t 35)], none⟩),
 (2, ⟨(some 34), .mv (.t 1), none⟩),
 (5, ⟨(some 37), .call 29 [(.t 33), (.t 34), (.t 36)], none⟩),
 (6, ⟨(some 31), .mv (.t 37), none⟩),
 (7, ⟨(some 38), .ext (.t 31) 0, none⟩),
 (9, ⟨(some 10), .born 0 (.new [.int .i64 0, .int .i64 0, .int .i64 0, .lit (.slice none 0 0), .lit (.slice none 0 0)]), none⟩),
 (10, ⟨(some 11), .born 1 (.new [.int .i64 0, .int .u64 0, .int .i64 0]), none⟩),
 (11, ⟨none, .st 5 (.t 10) (.t 38), none⟩),
 (8, ⟨(some 39), .ext (.t 31) 1, none⟩),
 (12, ⟨none, .st 3 (.t 11) (.t 39), none⟩)]
 [[], [0], [], [], [3, 1], [1, 2, 4, 4], [5], [6], [6], [], [], [9, 7, 5, 0, 1, 2, 3, 4, 5, 6, 7, 9, 10], [10, 8, 11, 0, 1, 2, 3, 4, 5, 6, 7, 8, 9, 10, 11]] 2)
 k3_4

def k3_6 : ACode :=
 .seq (.region [
 ⟨(some 25), .ld (some 5) (.t 3), none⟩,
 ⟨(some 26), .mv (.t 1), none⟩,
 ⟨(some 27), .ld (some 6) (.t 5), none⟩,
 ⟨(some 28), .call 28 [(.t 25), (.t 26), (.t 27)], none⟩,
 ⟨(some 24), .mv (.t 28), none⟩,
 ⟨(some 29), .ext (.t 24) 0, none⟩,
 ⟨(some 30), .ext (.t 24) 1, none⟩,
 ⟨(some 8), .new [.int .i64 0, .int .i64 0, .int .i64 0, .lit (.slice none 0 0), .lit (.slice none 0 0)], none⟩,
 ⟨(some 9), .new [.int .i64 0, .int .u64 0, .int .i64 0], none⟩,
 ⟨none, .st 5 (.t 8) (.t 29), none⟩,
 ⟨none, .st 3 (.t 9) (.t 30), none⟩])
 k3_5

def k3_7 : ACode :=
 .seq (.region [
 ⟨(some 22), .ld (some 5) (.t 3), none⟩,
 ⟨(some 23), .call 27 [(.t 22)], none⟩,
 ⟨(some 7), .new [.int .i64 0, .int .i64 0, .int .i64 0, .lit (.slice none 0 0), .lit (.slice none 0 0)], none⟩,
 ⟨none, .st 5 (.t 7) (.t 23), none⟩])
 k3_6

def k3_8 : ACode :=
 .seq (.seq (.region [
 ⟨(some 14), .ld (some 5) (.t 3), none⟩,
 ⟨(some 15), .ld (some 6) (.t 5), none⟩,
 ⟨(some 16), .call 25 [(.t 14), (.t 15)], none⟩,
 ⟨(some 17), .mv (.t 16), none⟩,
 ⟨(some 18), .ld (some 5) (.t 3), (some (17, false))⟩,
 ⟨(some 19), .call 26 [(.t 18)], (some (17, false))⟩,
 ⟨(some 20), .un .not (.t 19), (some (17, false))⟩,
 ⟨(some 21), .pick (.t 17) (.c (.bool true)) (.t 20), none⟩])
 k3_1)
 k3_7

def k3_9 : ACode :=
 .seq (.seq (.region [
 ⟨(some 12), .call 24 [], none⟩,
 ⟨(some 13), .un .not (.t 12), none⟩])
 k3_0)
 k3_8

def c3 : ACode :=
 .seq (.region [
 ⟨(some 3), .box (.t 0), none⟩,
 ⟨(some 5), .box (.t 2), none⟩,
 ⟨(some 6), .mv (.c (.bool false)), none⟩])
 k3_9
theorem ok3 : fnOk Tryz.prog 3 c3 70 [.t 6] = true := by kernel_rfl

def k15_0 : ACode :=
 .cond (.t 12)
 (.seq (.region [
 ⟨(some 4), .mv (.c (.bool false)), none⟩])
 (.ret))
 (.skip)

def k15_1 : ACode :=
 .drawn [
 (0, ⟨(some 44), .ld (some 5) (.t 5), none⟩),
 (1, ⟨(some 45), .born 0 (.bsl 1 1 [.int .i64 0] [(0, (.c (.int .i64 1)))]), none⟩),
 (2, ⟨(some 46), .call 74 [(.t 45)], none⟩),
 (3, ⟨(some 47), .born 1 (.bsl 1 1 [.int .i64 0] [(0, (.c (.int .i64 2)))]), none⟩),
 (4, ⟨(some 48), .call 74 [(.t 47)], none⟩),
 (5, ⟨(some 49), .build [.int .i64 0, .lit (.slice none 0 0), .lit (.slice none 0 0), .int .i64 0, .int .i64 0, .int .u64 0] [(0, 1, (.c (.int .i64 2))), (1, 1, (.t 46)), (2, 1, (.t 48)), (3, 1, (.c (.int .i64 7)))], none⟩),
 (6, ⟨(some 50), .call 43 [(.t 44), (.c (.int .i64 0)), (.t 49)], none⟩),
 (7, ⟨(some 43), .mv (.t 50), none⟩),
 (8, ⟨(some 51), .ext (.t 43) 0, none⟩),
 (10, ⟨none, .st 5 (.t 5) (.t 51), none⟩),
 (9, ⟨(some 52), .ext (.t 43) 1, none⟩)]
 [[], [], [1], [], [3, 2], [2, 4], [0, 5, 4], [6], [7], [7], [8, 6, 0, 1, 2, 3, 4, 5, 6, 7, 8]] 2

def k15_2 : ACode :=
 .seq (.region [
 ⟨(some 63), .ld (some 3) (.t 6), none⟩,
 ⟨(some 64), .build [.int .i64 0, .int .u64 0, .int .i64 0] [], none⟩,
 ⟨(some 65), .eqs false [0, 0, 0] (.t 63) (.t 64), none⟩,
 ⟨(some 66), .mv (.t 65), none⟩,
 ⟨(some 67), .ld (some 3) (.t 7), (some (66, true))⟩,
 ⟨(some 68), .build [.int .i64 0, .int .u64 0, .int .i64 0] [], (some (66, true))⟩,
 ⟨(some 69), .eqs false [0, 0, 0] (.t 67) (.t 68), (some (66, true))⟩,
 ⟨(some 70), .pick (.t 66) (.t 69) (.c (.bool false)), none⟩,
 ⟨(some 71), .mv (.t 70), none⟩,
 ⟨(some 72), .ld (some 3) (.t 8), (some (71, true))⟩,
 ⟨(some 73), .build [.int .i64 0, .int .u64 0, .int .i64 0] [(2, 1, (.c (.int .i64 1)))], (some (71, true))⟩,
 ⟨(some 74), .eqs false [0, 0, 0] (.t 72) (.t 73), (some (71, true))⟩,
 ⟨(some 75), .pick (.t 71) (.t 74) (.c (.bool false)), none⟩,
 ⟨(some 76), .mv (.t 75), none⟩,
 ⟨(some 77), .ld (some 3) (.t 10), (some (76, true))⟩,
 ⟨(some 78), .mv (.t 0), (some (76, true))⟩,
 ⟨(some 79), .build [.int .i64 0, .int .u64 0, .int .i64 0] [(1, 1, (.t 78))], (some (76, true))⟩,
 ⟨(some 80), .eqs false [0, 0, 0] (.t 77) (.t 79), (some (76, true))⟩,
 ⟨(some 81), .pick (.t 76) (.t 80) (.c (.bool false)), none⟩,
 ⟨(some 82), .mv (.t 81), none⟩,
 ⟨(some 83), .fld 3 (.t 9), (some (82, true))⟩,
 ⟨(some 84), .ld none (.t 83), (some (82, true))⟩,
 ⟨(some 85), .len false (.t 84), (some (82, true))⟩,
 ⟨(some 86), .bin .eql (.t 85) (.c (.int .i64 32)), (some (82, true))⟩,
 ⟨(some 87), .pick (.t 82) (.t 86) (.c (.bool false)), none⟩,
 ⟨(some 88), .mv (.t 87), none⟩,
 ⟨(some 89), .fld 3 (.t 9), (some (88, true))⟩,
 ⟨(some 90), .ld none (.t 89), (some (88, true))⟩,
 ⟨(some 91), .ixs 5 (.t 90) (.c (.int .i64 11)), (some (88, true))⟩,
 ⟨(some 92), .ld (some 5) (.t 91), (some (88, true))⟩,
 ⟨(some 93), .build [.int .i64 0, .int .i64 0, .int .i64 0, .int .i64 0, .int .i64 0] [(4, 1, (.c (.int .i64 (-1))))], (some (88, true))⟩,
 ⟨(some 94), .eqs false [0, 0, 0, 0, 0] (.t 92) (.t 93), (some (88, true))⟩,
 ⟨(some 95), .pick (.t 88) (.t 94) (.c (.bool false)), none⟩,
 ⟨(some 96), .mv (.t 95), none⟩,
 ⟨(some 97), .ld (some 5) (.t 9), (some (96, true))⟩,
 ⟨(some 98), .call 26 [(.t 97)], (some (96, true))⟩,
 ⟨(some 99), .pick (.t 96) (.t 98) (.c (.bool false)), none⟩,
 ⟨(some 4), .mv (.t 99), none⟩])
 (.ret)

def k15_3 : ACode :=
 .seq (.drawn [
 (0, ⟨(some 54), .ld (some 5) (.t 5), none⟩),
 (1, ⟨(some 55), .born 0 (.bsl 1 1 [.int .i64 0] [(0, (.c (.int .i64 1)))]), none⟩),
 (2, ⟨(some 56), .call 74 [(.t 55)], none⟩),
 (3, ⟨(some 57), .born 1 (.bsl 1 1 [.int .i64 0] [(0, (.c (.int .i64 3)))]), none⟩),
 (4, ⟨(some 58), .call 74 [(.t 57)], none⟩),
 (5, ⟨(some 59), .build [.int .i64 0, .lit (.slice none 0 0), .lit (.slice none 0 0), .int .i64 0, .int .i64 0, .int .u64 0] [(0, 1, (.c (.int .i64 8))), (1, 1, (.t 56)), (2, 1, (.t 58))], none⟩),
 (6, ⟨(some 60), .call 28 [(.t 54), (.c (.int .i64 1)), (.t 59)], none⟩),
 (7, ⟨(some 53), .mv (.t 60), none⟩),
 (8, ⟨(some 61), .ext (.t 53) 0, none⟩),
 (10, ⟨(some 9), .born 2 (.new [.int .i64 0, .int .i64 0, .int .i64 0, .lit (.slice none 0 0), .lit (.slice none 0 0)]), none⟩),
 (11, ⟨(some 10), .born 3 (.new [.int .i64 0, .int .u64 0, .int .i64 0]), none⟩),
 (12, ⟨none, .st 5 (.t 9) (.t 61), none⟩),
 (9, ⟨(some 62), .ext (.t 53) 1, none⟩),
 (13, ⟨none, .st 3 (.t 10) (.t 62), none⟩)]
 [[], [], [1], [], [3, 2], [2, 4], [0, 5, 4], [6], [7], [7], [], [], [10, 8, 6, 0, 1, 2, 3, 4, 5, 6, 7, 8, 10, 11], [11, 9, 12, 0, 1, 2, 3, 4, 5, 6, 7, 8, 9, 10, 11, 12]] 4)
 k15_2

def k15_4 : ACode :=
 .seq (.seq (.region [
 ⟨(some 42), .mv (.t 1), none⟩])
 (.cond (.t 42)
 k15_1
 (.skip)))
 k15_3

def k15_5 : ACode :=
 .seq (.drawn [
 (0, ⟨(some 35), .ld (some 5) (.t 5), none⟩),
 (1, ⟨(some 36), .born 0 (.bsl 1 1 [.int .i64 0] [(0, (.c (.int .i64 2)))]), none⟩),
 (2, ⟨(some 37), .call 74 [(.t 36)], none⟩),
 (3, ⟨(some 38), .build [.int .i64 0, .lit (.slice none 0 0), .lit (.slice none 0 0), .int .i64 0, .int .i64 0, .int .u64 0] [(0, 1, (.c (.int .i64 5))), (1, 1, (.t 37))], none⟩),
 (4, ⟨(some 39), .call 72 [(.t 35), (.c (.int .i64 0)), (.t 38)], none⟩),
 (5, ⟨(some 34), .mv (.t 39), none⟩),
 (6, ⟨(some 40), .ext (.t 34) 0, none⟩),
 (8, ⟨(some 8), .born 1 (.new [.int .i64 0, .int .u64 0, .int .i64 0]), none⟩),
 (9, ⟨none, .st 5 (.t 5) (.t 40), none⟩),
 (7, ⟨(some 41), .ext (.t 34) 1, none⟩),
 (10, ⟨none, .st 3 (.t 8) (.t 41), none⟩)]
 [[], [], [1], [2], [0, 3, 2], [4], [5], [5], [], [6, 4, 0, 1, 2, 3, 4, 5, 6, 8], [8, 7, 9, 0, 1, 2, 3, 4, 5, 6, 7, 8, 9]] 2)
 k15_4

def k15_6 : ACode :=
 .seq (.drawn [
 (0, ⟨(some 24), .ld (some 5) (.t 5), none⟩),
 (1, ⟨(some 25), .born 0 (.bsl 1 1 [.int .i64 0] [(0, (.c (.int .i64 1)))]), none⟩),
 (2, ⟨(some 26), .call 74 [(.t 25)], none⟩),
 (3, ⟨(some 27), .born 1 (.bsl 1 1 [.int .i64 0] [(0, (.c (.int .i64 2)))]), none⟩),
 (4, ⟨(some 28), .call 74 [(.t 27)], none⟩),
 (5, ⟨(some 29), .mv (.t 0), none⟩),
 (6, ⟨(some 30), .build [.int .i64 0, .lit (.slice none 0 0), .lit (.slice none 0 0), .int .i64 0, .int .i64 0, .int .u64 0] [(0, 1, (.c (.int .i64 7))), (1, 1, (.t 26)), (2, 1, (.t 28)), (5, 1, (.t 29))], none⟩),
 (7, ⟨(some 31), .call 28 [(.t 24), (.c (.int .i64 0)), (.t 30)], none⟩),
 (8, ⟨(some 23), .mv (.t 31), none⟩),
 (9, ⟨(some 32), .ext (.t 23) 0, none⟩),
 (11, ⟨(some 7), .born 2 (.new [.int .i64 0, .int .u64 0, .int .i64 0]), none⟩),
 (12, ⟨none, .st 5 (.t 5) (.t 32), none⟩),
 (10, ⟨(some 33), .ext (.t 23) 1, none⟩),
 (13, ⟨none, .st 3 (.t 7) (.t 33), none⟩)]
 [[], [], [1], [], [3, 2], [], [2, 4, 5], [0, 6, 4], [7], [8], [8], [], [9, 7, 0, 1, 2, 3, 4, 5, 6, 7, 8, 9, 11], [11, 10, 12, 0, 1, 2, 3, 4, 5, 6, 7, 8, 9, 10, 11, 12]] 3)
 k15_5

def k15_7 : ACode :=
 .seq (.region [
 ⟨(some 14), .call 73 [], none⟩,
 ⟨(some 15), .bsl 1 1 [.int .i64 0] [(0, (.c (.int .i64 1)))], none⟩,
 ⟨(some 16), .call 74 [(.t 15)], none⟩,
 ⟨(some 17), .bsl 1 1 [.int .i64 0] [(0, (.c (.int .i64 2)))], none⟩,
 ⟨(some 18), .call 74 [(.t 17)], none⟩,
 ⟨(some 19), .build [.int .i64 0, .lit (.slice none 0 0), .lit (.slice none 0 0), .int .i64 0, .int .i64 0, .int .u64 0] [(0, 1, (.c (.int .i64 2))), (1, 1, (.t 16)), (2, 1, (.t 18)), (3, 1, (.c (.int .i64 1)))], none⟩,
 ⟨(some 20), .call 43 [(.t 14), (.c (.int .i64 0)), (.t 19)], none⟩,
 ⟨(some 13), .mv (.t 20), none⟩,
 ⟨(some 21), .ext (.t 13) 0, none⟩,
 ⟨(some 22), .ext (.t 13) 1, none⟩,
 ⟨(some 5), .new [.int .i64 0, .int .i64 0, .int .i64 0, .lit (.slice none 0 0), .lit (.slice none 0 0)], none⟩,
 ⟨(some 6), .new [.int .i64 0, .int .u64 0, .int .i64 0], none⟩,
 ⟨none, .st 5 (.t 5) (.t 21), none⟩,
 ⟨none, .st 3 (.t 6) (.t 22), none⟩])
 k15_6

def k15_8 : ACode :=
 .seq (.seq (.region [
 ⟨(some 11), .call 24 [], none⟩,
 ⟨(some 12), .un .not (.t 11), none⟩])
 k15_0)
 k15_7

def c15 : ACode :=
 .seq (.region [
 ⟨(some 4), .mv (.c (.bool false)), none⟩])
 k15_8
theorem ok15 : fnOk Tryz.prog 15 c15 100 [.t 4] = true := by kernel_rfl

def k24_0 : ACode :=
 .seq (.drawn [
 (0, ⟨(some 21), .ld (some 3) (.t 2), none⟩),
 (1, ⟨(some 22), .build [.int .i64 0, .int .u64 0, .int .i64 0] [], none⟩),
 (2, ⟨(some 23), .eqs false [0, 0, 0] (.t 21) (.t 22), none⟩),
 (3, ⟨(some 24), .mv (.t 23), none⟩),
 (4, ⟨(some 25), .ld (some 3) (.t 4), (some (24, true))⟩),
 (5, ⟨(some 26), .build [.int .i64 0, .int .u64 0, .int .i64 0] [(1, 1, (.c (.int .u64 42)))], (some (24, true))⟩),
 (6, ⟨(some 27), .eqs false [0, 0, 0] (.t 25) (.t 26), (some (24, true))⟩),
 (7, ⟨(some 28), .pick (.t 24) (.t 27) (.c (.bool false)), none⟩),
 (8, ⟨(some 29), .mv (.t 28), none⟩),
 (9, ⟨(some 30), .ld (some 5) (.t 3), (some (29, true))⟩),
 (10, ⟨(some 31), .call 73 [], (some (29, true))⟩),
 (11, ⟨(some 32), .call 34 [(.t 30), (.t 31)], (some (29, true))⟩),
 (12, ⟨(some 33), .pick (.t 29) (.t 32) (.c (.bool false)), none⟩),
 (13, ⟨(some 0), .mv (.t 33), none⟩)]
 [[], [], [0, 1], [2], [3], [3], [4, 5, 3], [3, 6], [7, 3], [8], [8, 8], [9, 10, 10, 8], [8, 11], [12, 11, 0, 1, 2, 3, 4, 5, 6, 7, 8, 9, 10, 11, 12]] 0)
 (.ret)

def k24_1 : ACode :=
 .seq (.drawn [
 (0, ⟨(some 14), .ld (some 5) (.t 1), none⟩),
 (1, ⟨(some 15), .born 0 (.bsl 1 1 [.int .i64 0] [(0, (.c (.int .i64 1)))]), none⟩),
 (2, ⟨(some 16), .call 74 [(.t 15)], none⟩),
 (3, ⟨(some 17), .build [.int .i64 0, .lit (.slice none 0 0), .lit (.slice none 0 0), .int .i64 0, .int .i64 0, .int .u64 0] [(0, 1, (.c (.int .i64 8))), (1, 1, (.t 16))], none⟩),
 (4, ⟨(some 18), .call 28 [(.t 14), (.c (.int .i64 1)), (.t 17)], none⟩),
 (5, ⟨(some 13), .mv (.t 18), none⟩),
 (6, ⟨(some 19), .ext (.t 13) 0, none⟩),
 (8, ⟨(some 3), .born 1 (.new [.int .i64 0, .int .i64 0, .int .i64 0, .lit (.slice none 0 0), .lit (.slice none 0 0)]), none⟩),
 (9, ⟨(some 4), .born 2 (.new [.int .i64 0, .int .u64 0, .int .i64 0]), none⟩),
 (10, ⟨none, .st 5 (.t 3) (.t 19), none⟩),
 (7, ⟨(some 20), .ext (.t 13) 1, none⟩),
 (11, ⟨none, .st 3 (.t 4) (.t 20), none⟩)]
 [[], [], [1], [2], [0, 3, 2], [4], [5], [5], [], [], [8, 6, 4, 0, 1, 2, 3, 4, 5, 6, 8, 9], [9, 7, 10, 0, 1, 2, 3, 4, 5, 6, 7, 8, 9, 10]] 3)
 k24_0

def k24_2 : ACode :=
 .seq (.region [
 ⟨(some 6), .call 73 [], none⟩,
 ⟨(some 7), .bsl 1 1 [.int .i64 0] [(0, (.c (.int .i64 1)))], none⟩,
 ⟨(some 8), .call 74 [(.t 7)], none⟩,
 ⟨(some 9), .build [.int .i64 0, .lit (.slice none 0 0), .lit (.slice none 0 0), .int .i64 0, .int .i64 0, .int .u64 0] [(0, 1, (.c (.int .i64 7))), (1, 1, (.t 8)), (5, 1, (.c (.int .u64 42)))], none⟩,
 ⟨(some 10), .call 28 [(.t 6), (.c (.int .i64 0)), (.t 9)], none⟩,
 ⟨(some 5), .mv (.t 10), none⟩,
 ⟨(some 11), .ext (.t 5) 0, none⟩,
 ⟨(some 12), .ext (.t 5) 1, none⟩,
 ⟨(some 1), .new [.int .i64 0, .int .i64 0, .int .i64 0, .lit (.slice none 0 0), .lit (.slice none 0 0)], none⟩,
 ⟨(some 2), .new [.int .i64 0, .int .u64 0, .int .i64 0], none⟩,
 ⟨none, .st 5 (.t 1) (.t 11), none⟩,
 ⟨none, .st 3 (.t 2) (.t 12), none⟩])
 k24_1

def c24 : ACode :=
 .seq (.region [
 ⟨(some 0), .mv (.c (.bool false)), none⟩])
 k24_2
theorem ok24 : fnOk Tryz.prog 24 c24 34 [.t 0] = true := by kernel_rfl

def k25_0 : ACode :=
 .seq (.region [
 ⟨(some 5), .fld 3 (.t 2), none⟩,
 ⟨(some 6), .ld none (.t 5), none⟩,
 ⟨(some 7), .len false (.t 6), none⟩,
 ⟨(some 8), .bin .gtr (.t 7) (.c (.int .i64 100)), none⟩,
 ⟨(some 9), .mv (.t 8), none⟩,
 ⟨(some 10), .fld 4 (.t 2), (some (9, false))⟩,
 ⟨(some 11), .ld none (.t 10), (some (9, false))⟩,
 ⟨(some 12), .len false (.t 11), (some (9, false))⟩,
 ⟨(some 13), .bin .gtr (.t 12) (.c (.int .i64 50)), (some (9, false))⟩,
 ⟨(some 14), .pick (.t 9) (.c (.bool true)) (.t 13), none⟩,
 ⟨(some 15), .mv (.t 14), none⟩,
 ⟨(some 16), .fld 1 (.t 3), (some (15, false))⟩,
 ⟨(some 17), .fld 0 (.t 16), (some (15, false))⟩,
 ⟨(some 18), .ld none (.t 17), (some (15, false))⟩,
 ⟨(some 19), .len false (.t 18), (some (15, false))⟩,
 ⟨(some 20), .bin .gtr (.t 19) (.c (.int .i64 10)), (some (15, false))⟩,
 ⟨(some 21), .pick (.t 15) (.c (.bool true)) (.t 20), none⟩,
 ⟨(some 22), .mv (.t 21), none⟩,
 ⟨(some 23), .fld 2 (.t 3), (some (22, false))⟩,
 ⟨(some 24), .fld 0 (.t 23), (some (22, false))⟩,
 ⟨(some 25), .ld none (.t 24), (some (22, false))⟩,
 ⟨(some 26), .len false (.t 25), (some (22, false))⟩,
 ⟨(some 27), .bin .gtr (.t 26) (.c (.int .i64 10)), (some (22, false))⟩,
 ⟨(some 28), .pick (.t 22) (.c (.bool true)) (.t 27), none⟩,
 ⟨(some 4), .mv (.t 28), none⟩])
 (.ret)

def c25 : ACode :=
 .seq (.region [
 ⟨(some 2), .box (.t 0), none⟩,
 ⟨(some 3), .box (.t 1), none⟩,
 ⟨(some 4), .mv (.c (.bool false)), none⟩])
 k25_0
theorem ok25 : fnOk Tryz.prog 25 c25 29 [.t 4] = true := by kernel_rfl

def k30_0 : ACode :=
 .drawn [
 (0, ⟨(some 31), .fld 3 (.t 3), none⟩),
 (1, ⟨(some 32), .ld none (.t 31), none⟩),
 (2, ⟨(some 33), .fld 0 (.t 5), none⟩),
 (3, ⟨(some 34), .ld none (.t 33), none⟩),
 (4, ⟨(some 35), .fld 1 (.t 5), none⟩),
 (5, ⟨(some 36), .ld none (.t 35), none⟩),
 (6, ⟨(some 37), .fld 2 (.t 5), none⟩),
 (7, ⟨(some 38), .ld none (.t 37), none⟩),
 (8, ⟨(some 39), .fld 3 (.t 5), none⟩),
 (9, ⟨(some 40), .ld none (.t 39), none⟩),
 (11, ⟨(some 42), .fld 3 (.t 1), none⟩),
 (12, ⟨(some 43), .ld none (.t 42), none⟩),
 (13, ⟨(some 44), .mv (.t 4), none⟩),
 (14, ⟨(some 45), .ixs 5 (.t 43) (.t 44), none⟩),
 (15, ⟨(some 46), .fld 4 (.t 45), none⟩),
 (16, ⟨(some 47), .ld none (.t 46), none⟩),
 (10, ⟨(some 41), .build [.int .i64 0, .int .i64 0, .int .i64 0, .int .i64 0] [(0, 1, (.t 34)), (1, 1, (.t 36)), (2, 1, (.t 38)), (3, 1, (.t 40))], none⟩),
 (17, ⟨(some 48), .build [.int .i64 0, .int .i64 0, .int .i64 0, .int .i64 0, .int .i64 0] [(0, 4, (.t 41)), (4, 1, (.t 47))], none⟩),
 (18, ⟨(some 49), .born 0 (.bsl 5 1 [.int .i64 0, .int .i64 0, .int .i64 0, .int .i64 0, .int .i64 0] [(0, (.t 48))]), none⟩),
 (19, ⟨(some 50), .app 5 40 (.t 32) (.t 49), none⟩),
 (20, ⟨(some 51), .fld 3 (.t 3), none⟩),
 (21, ⟨none, .st 1 (.t 51) (.t 50), none⟩)]
 [[], [0], [], [2], [], [4], [], [6], [], [8], [3, 5, 7, 9], [], [11], [], [12, 13], [14], [15], [10, 16], [17], [1, 18], [0, 1, 2, 3, 4, 5, 6, 7, 8, 9, 10, 11, 12, 13, 14, 15, 16, 17, 18, 19], [20, 19, 19, 0, 1, 2, 3, 4, 5, 6, 7, 8, 9, 10, 11, 12, 13, 14, 15, 16, 17, 18, 19]] 1

def k30_1 : ACode :=
 .seq (.block 1 (
 .seq (.region [
 ⟨(some 25), .fld 3 (.t 1), none⟩,
 ⟨(some 26), .ld none (.t 25), none⟩,
 ⟨(some 27), .mv (.t 4), none⟩,
 ⟨(some 28), .ixs 5 (.t 26) (.t 27), none⟩,
 ⟨(some 29), .fld 0 (.t 28), none⟩,
 ⟨(some 30), .ld (some 4) (.t 29), none⟩,
 ⟨(some 5), .new [.int .i64 0, .int .i64 0, .int .i64 0, .int .i64 0], none⟩,
 ⟨none, .st 4 (.t 5) (.t 30), none⟩])
 k30_0))
 (.region [
 ⟨(some 23), .mv (.t 4), none⟩,
 ⟨(some 24), .bin .add (.t 23) (.c (.int .i64 1)), none⟩,
 ⟨(some 4), .mv (.t 24), none⟩])

def b30_2 : ACode :=
 .seq (.seq (.region [
 ⟨(some 18), .mv (.t 4), none⟩,
 ⟨(some 19), .fld 3 (.t 1), none⟩,
 ⟨(some 20), .ld none (.t 19), none⟩,
 ⟨(some 21), .len false (.t 20), none⟩,
 ⟨(some 22), .bin .lss (.t 18) (.t 21), none⟩])
 (.cond (.t 22)
 (.skip)
 (.exit 0)))
 k30_1

def k30_3 : ACode :=
 .seq (.block 3 (
 .drawn [
 (0, ⟨(some 59), .fld 4 (.t 3), none⟩),
 (1, ⟨(some 60), .ld none (.t 59), none⟩),
 (2, ⟨(some 61), .fld 4 (.t 1), none⟩),
 (3, ⟨(some 62), .ld none (.t 61), none⟩),
 (4, ⟨(some 63), .mv (.t 6), none⟩),
 (5, ⟨(some 64), .ixs 13 (.t 62) (.t 63), none⟩),
 (6, ⟨(some 65), .ld (some 13) (.t 64), none⟩),
 (7, ⟨(some 66), .call 119 [(.t 65)], none⟩),
 (8, ⟨(some 67), .born 0 (.bsl 13 1 [.int .i64 0, .int .i64 0, .int .i64 0, .int .i64 0, .int .i64 0, .int .i64 0, .int .i64 0, .bool false, .int .u64 0, .int .u64 0, .int .u64 0, .int .u64 0, .int .u64 0] [(0, (.t 66))]), none⟩),
 (9, ⟨(some 68), .app 13 104 (.t 60) (.t 67), none⟩),
 (10, ⟨(some 69), .fld 4 (.t 3), none⟩),
 (11, ⟨none, .st 1 (.t 69) (.t 68), none⟩)]
 [[], [0], [], [2], [], [3, 4], [5], [6], [7], [1, 8, 7], [0, 1, 2, 3, 4, 5, 6, 7, 8, 9], [10, 9, 9, 0, 1, 2, 3, 4, 5, 6, 7, 8, 9]] 1))
 (.region [
 ⟨(some 57), .mv (.t 6), none⟩,
 ⟨(some 58), .bin .add (.t 57) (.c (.int .i64 1)), none⟩,
 ⟨(some 6), .mv (.t 58), none⟩])

def b30_4 : ACode :=
 .seq (.seq (.region [
 ⟨(some 52), .mv (.t 6), none⟩,
 ⟨(some 53), .fld 4 (.t 1), none⟩,
 ⟨(some 54), .ld none (.t 53), none⟩,
 ⟨(some 55), .len false (.t 54), none⟩,
 ⟨(some 56), .bin .lss (.t 52) (.t 55), none⟩])
 (.cond (.t 56)
 (.skip)
 (.exit 2)))
 k30_3

def k30_5 : ACode :=
 .seq (.seq (.region [
 ⟨(some 6), .mv (.c (.int .i64 0)), none⟩])
 (.block 2 (
 .loop b30_4)))
 (.seq (.region [
 ⟨(some 70), .ld (some 5) (.t 3), none⟩,
 ⟨none, .st 5 (.t 2) (.t 70), none⟩])
 (.ret))

def k30_6 : ACode :=
 .seq (.seq (.region [
 ⟨(some 4), .mv (.c (.int .i64 0)), none⟩])
 (.block 0 (
 .loop b30_2)))
 k30_5

def k30_7 : ACode :=
 .seq (.region [
 ⟨(some 7), .fld 0 (.t 1), none⟩,
 ⟨(some 8), .fld 0 (.t 7), none⟩,
 ⟨(some 9), .ld none (.t 8), none⟩,
 ⟨(some 10), .fld 0 (.t 1), none⟩,
 ⟨(some 11), .fld 1 (.t 10), none⟩,
 ⟨(some 12), .ld none (.t 11), none⟩,
 ⟨(some 13), .fld 0 (.t 1), none⟩,
 ⟨(some 14), .fld 2 (.t 13), none⟩,
 ⟨(some 15), .ld none (.t 14), none⟩,
 ⟨(some 16), .build [.int .i64 0, .int .i64 0, .int .i64 0] [(0, 1, (.t 9)), (1, 1, (.t 12)), (2, 1, (.t 15))], none⟩,
 ⟨(some 17), .build [.int .i64 0, .int .i64 0, .int .i64 0, .lit (.slice none 0 0), .lit (.slice none 0 0)] [(0, 3, (.t 16))], none⟩,
 ⟨(some 3), .new [.int .i64 0, .int .i64 0, .int .i64 0, .lit (.slice none 0 0), .lit (.slice none 0 0)], none⟩,
 ⟨none, .st 5 (.t 3) (.t 17), none⟩])
 k30_6

def c30 : ACode :=
 .seq (.region [
 ⟨(some 1), .box (.t 0), none⟩,
 ⟨(some 2), .new [.int .i64 0, .int .i64 0, .int .i64 0, .lit (.slice none 0 0), .lit (.slice none 0 0)], none⟩])
 k30_7
theorem ok30 : fnOk Tryz.prog 30 c30 71 [.c 2 (some 5)] = true := by kernel_rfl

def k31_0 : ACode :=
 .seq (.region [
 ⟨(some 3), .fld 0 (.t 1), none⟩,
 ⟨(some 4), .ld none (.t 3), none⟩,
 ⟨(some 5), .fld 1 (.t 1), none⟩,
 ⟨(some 6), .fld 0 (.t 5), none⟩,
 ⟨(some 7), .ld none (.t 6), none⟩,
 ⟨(some 8), .fld 2 (.t 1), none⟩,
 ⟨(some 9), .fld 0 (.t 8), none⟩,
 ⟨(some 10), .ld none (.t 9), none⟩,
 ⟨(some 11), .fld 3 (.t 1), none⟩,
 ⟨(some 12), .ld none (.t 11), none⟩,
 ⟨(some 13), .fld 4 (.t 1), none⟩,
 ⟨(some 14), .ld none (.t 13), none⟩,
 ⟨(some 15), .fld 5 (.t 1), none⟩,
 ⟨(some 16), .ld none (.t 15), none⟩,
 ⟨(some 17), .build [.int .i64 0, .lit (.slice none 0 0), .lit (.slice none 0 0), .int .i64 0, .int .i64 0, .int .u64 0] [(0, 1, (.t 4)), (1, 1, (.t 7)), (2, 1, (.t 10)), (3, 1, (.t 12)), (4, 1, (.t 14)), (5, 1, (.t 16))], none⟩,
 ⟨none, .st 6 (.t 2) (.t 17), none⟩])
 (.ret)

def c31 : ACode :=
 .seq (.region [
 ⟨(some 1), .box (.t 0), none⟩,
 ⟨(some 2), .new [.int .i64 0, .lit (.slice none 0 0), .lit (.slice none 0 0), .int .i64 0, .int .i64 0, .int .u64 0], none⟩])
 k31_0
theorem ok31 : fnOk Tryz.prog 31 c31 18 [.c 2 (some 6)] = true := by kernel_rfl

def k32_0 : ACode :=
 .seq (.region [
 ⟨(some 5), .fld 0 (.t 2), none⟩,
 ⟨(some 6), .ld none (.t 5), none⟩,
 ⟨(some 7), .fld 0 (.t 3), none⟩,
 ⟨(some 8), .ld none (.t 7), none⟩,
 ⟨(some 9), .bin .eql (.t 6) (.t 8), none⟩,
 ⟨(some 10), .mv (.t 9), none⟩,
 ⟨(some 11), .fld 1 (.t 2), (some (10, true))⟩,
 ⟨(some 12), .ld none (.t 11), (some (10, true))⟩,
 ⟨(some 13), .fld 1 (.t 3), (some (10, true))⟩,
 ⟨(some 14), .ld none (.t 13), (some (10, true))⟩,
 ⟨(some 15), .bin .eql (.t 12) (.t 14), (some (10, true))⟩,
 ⟨(some 16), .pick (.t 10) (.t 15) (.c (.bool false)), none⟩,
 ⟨(some 17), .mv (.t 16), none⟩,
 ⟨(some 18), .fld 2 (.t 2), (some (17, true))⟩,
 ⟨(some 19), .ld none (.t 18), (some (17, true))⟩,
 ⟨(some 20), .fld 2 (.t 3), (some (17, true))⟩,
 ⟨(some 21), .ld none (.t 20), (some (17, true))⟩,
 ⟨(some 22), .bin .eql (.t 19) (.t 21), (some (17, true))⟩,
 ⟨(some 23), .pick (.t 17) (.t 22) (.c (.bool false)), none⟩,
 ⟨(some 4), .mv (.t 23), none⟩])
 (.ret)

def c32 : ACode :=
 .seq (.region [
 ⟨(some 2), .box (.t 0), none⟩,
 ⟨(some 3), .box (.t 1), none⟩,
 ⟨(some 4), .mv (.c (.bool false)), none⟩])
 k32_0
theorem ok32 : fnOk Tryz.prog 32 c32 24 [.t 4] = true := by kernel_rfl

def k73_0 : ACode :=
 .seq (.region [
 ⟨(some 4), .call 148 [], none⟩,
 ⟨(some 5), .call 87 [(.t 4), (.c (.int .i64 64))], none⟩,
 ⟨(some 3), .mv (.t 5), none⟩,
 ⟨(some 6), .ext (.t 3) 0, none⟩,
 ⟨(some 7), .ext (.t 3) 1, none⟩,
 ⟨(some 1), .new [.int .i64 0, .int .i64 0, .int .i64 0, .lit (.slice none 0 0), .lit (.slice none 0 0)], none⟩,
 ⟨none, .st 5 (.t 1) (.t 6), none⟩,
 ⟨(some 2), .mv (.t 7), none⟩])
 (.seq (.region [
 ⟨(some 8), .ld (some 5) (.t 1), none⟩,
 ⟨none, .st 5 (.t 0) (.t 8), none⟩])
 (.ret))

def c73 : ACode :=
 .seq (.region [
 ⟨(some 0), .new [.int .i64 0, .int .i64 0, .int .i64 0, .lit (.slice none 0 0), .lit (.slice none 0 0)], none⟩])
 k73_0
theorem ok73 : fnOk Tryz.prog 73 c73 9 [.c 0 (some 5)] = true := by kernel_rfl

def k74_0 : ACode :=
 .seq (.region [
 ⟨(some 3), .mv (.t 0), none⟩,
 ⟨(some 4), .build [.lit (.slice none 0 0)] [(0, 1, (.t 3))], none⟩,
 ⟨none, .st 1 (.t 2) (.t 4), none⟩])
 (.ret)

def c74 : ACode :=
 .seq (.region [
 ⟨(some 2), .new [.lit (.slice none 0 0)], none⟩])
 k74_0
theorem ok74 : fnOk Tryz.prog 74 c74 5 [.c 2 (some 1)] = true := by kernel_rfl

def k119_0 : ACode :=
 .seq (.region [
 ⟨(some 3), .fld 0 (.t 1), none⟩,
 ⟨(some 4), .ld none (.t 3), none⟩,
 ⟨(some 5), .fld 1 (.t 1), none⟩,
 ⟨(some 6), .ld none (.t 5), none⟩,
 ⟨(some 7), .fld 2 (.t 1), none⟩,
 ⟨(some 8), .ld none (.t 7), none⟩,
 ⟨(some 9), .fld 3 (.t 1), none⟩,
 ⟨(some 10), .ld none (.t 9), none⟩,
 ⟨(some 11), .fld 4 (.t 1), none⟩,
 ⟨(some 12), .ld none (.t 11), none⟩,
 ⟨(some 13), .fld 5 (.t 1), none⟩,
 ⟨(some 14), .ld none (.t 13), none⟩,
 ⟨(some 15), .fld 6 (.t 1), none⟩,
 ⟨(some 16), .ld none (.t 15), none⟩,
 ⟨(some 17), .fld 7 (.t 1), none⟩,
 ⟨(some 18), .ld none (.t 17), none⟩,
 ⟨(some 19), .fld 8 (.t 1), none⟩,
 ⟨(some 20), .ld none (.t 19), none⟩,
 ⟨(some 21), .fld 9 (.t 1), none⟩,
 ⟨(some 22), .ld (some 4) (.t 21), none⟩,
 ⟨(some 23), .build [.int .i64 0, .int .i64 0, .int .i64 0, .int .i64 0, .int .i64 0, .int .i64 0, .int .i64 0, .bool false, .int .u64 0, .int .u64 0, .int .u64 0, .int .u64 0, .int .u64 0] [(0, 1, (.t 4)), (1, 1, (.t 6)), (2, 1, (.t 8)), (3, 1, (.t 10)), (4, 1, (.t 12)), (5, 1, (.t 14)), (6, 1, (.t 16)), (7, 1, (.t 18)), (8, 1, (.t 20)), (9, 4, (.t 22))], none⟩,
 ⟨none, .st 13 (.t 2) (.t 23), none⟩])
 (.ret)

def c119 : ACode :=
 .seq (.region [
 ⟨(some 1), .box (.t 0), none⟩,
 ⟨(some 2), .new [.int .i64 0, .int .i64 0, .int .i64 0, .int .i64 0, .int .i64 0, .int .i64 0, .int .i64 0, .bool false, .int .u64 0, .int .u64 0, .int .u64 0, .int .u64 0, .int .u64 0], none⟩])
 k119_0
theorem ok119 : fnOk Tryz.prog 119 c119 24 [.c 2 (some 13)] = true := by kernel_rfl

end Go.Proofs.YtipigjckoejfpaaGreat.Ax
