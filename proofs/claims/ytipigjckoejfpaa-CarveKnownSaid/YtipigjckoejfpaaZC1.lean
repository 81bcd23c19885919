/- Texts put behind one another: AxCLib, AxCBase, AxCOps. Conditions: none. -/
import Derived.Test.YtipigjckoejfpaaAxEnterZ
import Derived.Test.YtipigjckoejfpaaProg
import Derived.KernelRfl
set_option linter.unusedSimpArgs false
set_option linter.unusedVariables false
/- The code of functions of the program, for our abstract machine; each is tied to the program by a closed test. Written by gen.py. Conditions: none. -/
namespace Go.Proofs.Ytipigjckoejfpaa.Ax
open Go Go.Ax
set_option maxRecDepth 100000

def c2 : ACode :=
 .wild
theorem ok2 : fnOk Try.prog 2 c2 1 [] = true := by kernel_rfl

def k51_0 : ACode :=
 .cond (.t 10)
 (.seq (.region [
 ⟨(some 4), .mv (.c (.bool false)), none⟩])
 (.ret))
 (.skip)

def k51_1 : ACode :=
 .cond (.t 24)
 (.seq (.region [
 ⟨(some 4), .mv (.c (.bool false)), none⟩])
 (.ret))
 (.skip)

def k51_2 : ACode :=
 .seq (.drawn [
 (0, ⟨(some 16), .mv (.t 0), none⟩),
 (1, ⟨(some 17), .mv (.t 5), none⟩),
 (2, ⟨(some 18), .ixs 5 (.t 16) (.t 17), none⟩),
 (3, ⟨(some 19), .ld (some 5) (.t 18), none⟩),
 (4, ⟨(some 20), .mv (.t 1), none⟩),
 (5, ⟨(some 21), .mv (.t 5), none⟩),
 (6, ⟨(some 22), .ixs 5 (.t 20) (.t 21), none⟩),
 (7, ⟨(some 23), .ld (some 5) (.t 22), none⟩),
 (8, ⟨(some 24), .eqs true [0, 0, 0, 0, 0] (.t 19) (.t 23), none⟩)]
 [[], [], [0, 1], [2], [], [], [4, 5], [6], [3, 7]] 0)
 k51_1

def k51_3 : ACode :=
 .seq (.block 1 (
 .seq (.region [
 ⟨(some 15), .mv (.t 13), none⟩,
 ⟨(some 5), .mv (.t 15), none⟩])
 k51_2))
 (.region [
 ⟨(some 25), .bin .add (.t 13) (.c (.int .i64 1)), none⟩,
 ⟨(some 13), .mv (.t 25), none⟩])

def b51_4 : ACode :=
 .seq (.region [
 ⟨(some 14), .bin .lss (.t 13) (.t 12), none⟩])
 (.seq (.cond (.t 14)
 (.skip)
 (.exit 0))
 k51_3)

def k51_5 : ACode :=
 .seq (.seq (.region [
 ⟨(some 11), .mv (.t 0), none⟩,
 ⟨(some 12), .len false (.t 11), none⟩,
 ⟨(some 13), .mv (.c (.int .i64 0)), none⟩])
 (.block 0 (
 .loop b51_4)))
 (.seq (.region [
 ⟨(some 4), .mv (.c (.bool true)), none⟩])
 (.ret))

def k51_6 : ACode :=
 .seq (.seq (.region [
 ⟨(some 6), .mv (.t 0), none⟩,
 ⟨(some 7), .len false (.t 6), none⟩,
 ⟨(some 8), .mv (.t 1), none⟩,
 ⟨(some 9), .len false (.t 8), none⟩,
 ⟨(some 10), .bin .neq (.t 7) (.t 9), none⟩])
 k51_0)
 k51_5

def c51 : ACode :=
 .seq (.region [
 ⟨(some 4), .mv (.c (.bool false)), none⟩])
 k51_6
theorem ok51 : fnOk Try.prog 51 c51 26 [.t 4] = true := by kernel_rfl

def k52_0 : ACode :=
 .cond (.t 10)
 (.seq (.region [
 ⟨(some 4), .mv (.c (.bool false)), none⟩])
 (.ret))
 (.skip)

def k52_1 : ACode :=
 .cond (.t 24)
 (.seq (.region [
 ⟨(some 4), .mv (.c (.bool false)), none⟩])
 (.ret))
 (.skip)

def k52_2 : ACode :=
 .seq (.drawn [
 (0, ⟨(some 16), .mv (.t 0), none⟩),
 (1, ⟨(some 17), .mv (.t 5), none⟩),
 (2, ⟨(some 18), .ixs 13 (.t 16) (.t 17), none⟩),
 (3, ⟨(some 19), .ld (some 13) (.t 18), none⟩),
 (4, ⟨(some 20), .mv (.t 1), none⟩),
 (5, ⟨(some 21), .mv (.t 5), none⟩),
 (6, ⟨(some 22), .ixs 13 (.t 20) (.t 21), none⟩),
 (7, ⟨(some 23), .ld (some 13) (.t 22), none⟩),
 (8, ⟨(some 24), .eqs true [0, 0, 0, 0, 0, 0, 0, 1, 0, 0, 0, 0, 0] (.t 19) (.t 23), none⟩)]
 [[], [], [0, 1], [2], [], [], [4, 5], [6], [3, 7]] 0)
 k52_1

def k52_3 : ACode :=
 .seq (.block 1 (
 .seq (.region [
 ⟨(some 15), .mv (.t 13), none⟩,
 ⟨(some 5), .mv (.t 15), none⟩])
 k52_2))
 (.region [
 ⟨(some 25), .bin .add (.t 13) (.c (.int .i64 1)), none⟩,
 ⟨(some 13), .mv (.t 25), none⟩])

def b52_4 : ACode :=
 .seq (.region [
 ⟨(some 14), .bin .lss (.t 13) (.t 12), none⟩])
 (.seq (.cond (.t 14)
 (.skip)
 (.exit 0))
 k52_3)

def k52_5 : ACode :=
 .seq (.seq (.region [
 ⟨(some 11), .mv (.t 0), none⟩,
 ⟨(some 12), .len false (.t 11), none⟩,
 ⟨(some 13), .mv (.c (.int .i64 0)), none⟩])
 (.block 0 (
 .loop b52_4)))
 (.seq (.region [
 ⟨(some 4), .mv (.c (.bool true)), none⟩])
 (.ret))

def k52_6 : ACode :=
 .seq (.seq (.region [
 ⟨(some 6), .mv (.t 0), none⟩,
 ⟨(some 7), .len false (.t 6), none⟩,
 ⟨(some 8), .mv (.t 1), none⟩,
 ⟨(some 9), .len false (.t 8), none⟩,
 ⟨(some 10), .bin .neq (.t 7) (.t 9), none⟩])
 k52_0)
 k52_5

def c52 : ACode :=
 .seq (.region [
 ⟨(some 4), .mv (.c (.bool false)), none⟩])
 k52_6
theorem ok52 : fnOk Try.prog 52 c52 26 [.t 4] = true := by kernel_rfl

def k55_0 : ACode :=
 .cond (.t 4)
 (.seq (.region [
 ⟨(some 2), .mv (.c (.lit (.slice none 0 0))), none⟩])
 (.ret))
 (.skip)

def k55_1 : ACode :=
 .seq (.region [
 ⟨(some 5), .bsl 5 0 [.int .i64 0, .int .i64 0, .int .i64 0, .int .i64 0, .int .i64 0] [], none⟩,
 ⟨(some 6), .mv (.t 0), none⟩,
 ⟨(some 7), .app 5 40 (.t 5) (.t 6), none⟩,
 ⟨(some 2), .mv (.t 7), none⟩])
 (.ret)

def k55_2 : ACode :=
 .seq (.seq (.region [
 ⟨(some 3), .mv (.t 0), none⟩,
 ⟨(some 4), .isNil false 1 (.t 3), none⟩])
 k55_0)
 k55_1

def c55 : ACode :=
 .seq (.region [
 ⟨(some 2), .mv (.c (.lit (.slice none 0 0))), none⟩])
 k55_2
theorem ok55 : fnOk Try.prog 55 c55 8 [.t 2] = true := by kernel_rfl

def k56_0 : ACode :=
 .cond (.t 4)
 (.seq (.region [
 ⟨(some 2), .mv (.c (.lit (.slice none 0 0))), none⟩])
 (.ret))
 (.skip)

def k56_1 : ACode :=
 .seq (.region [
 ⟨(some 5), .bsl 13 0 [.int .i64 0, .int .i64 0, .int .i64 0, .int .i64 0, .int .i64 0, .int .i64 0, .int .i64 0, .bool false, .int .u64 0, .int .u64 0, .int .u64 0, .int .u64 0, .int .u64 0] [], none⟩,
 ⟨(some 6), .mv (.t 0), none⟩,
 ⟨(some 7), .app 13 104 (.t 5) (.t 6), none⟩,
 ⟨(some 2), .mv (.t 7), none⟩])
 (.ret)

def k56_2 : ACode :=
 .seq (.seq (.region [
 ⟨(some 3), .mv (.t 0), none⟩,
 ⟨(some 4), .isNil false 1 (.t 3), none⟩])
 k56_0)
 k56_1

def c56 : ACode :=
 .seq (.region [
 ⟨(some 2), .mv (.c (.lit (.slice none 0 0))), none⟩])
 k56_2
theorem ok56 : fnOk Try.prog 56 c56 8 [.t 2] = true := by kernel_rfl

def k61_0 : ACode :=
 .cond (.t 16)
 (.seq (.region [
 ⟨(some 17), .mv (.t 5), none⟩,
 ⟨(some 4), .mv (.t 17), none⟩])
 (.ret))
 (.skip)

def k61_1 : ACode :=
 .seq (.region [
 ⟨(some 11), .mv (.t 1), none⟩,
 ⟨(some 12), .mv (.t 0), none⟩,
 ⟨(some 13), .mv (.t 5), none⟩,
 ⟨(some 14), .ixs 13 (.t 12) (.t 13), none⟩,
 ⟨(some 15), .ld (some 13) (.t 14), none⟩,
 ⟨(some 16), .callv (.t 11) [(.t 15)], none⟩])
 k61_0

def k61_2 : ACode :=
 .seq (.block 1 (
 .seq (.region [
 ⟨(some 10), .mv (.t 8), none⟩,
 ⟨(some 5), .mv (.t 10), none⟩])
 k61_1))
 (.region [
 ⟨(some 18), .bin .add (.t 8) (.c (.int .i64 1)), none⟩,
 ⟨(some 8), .mv (.t 18), none⟩])

def b61_3 : ACode :=
 .seq (.region [
 ⟨(some 9), .bin .lss (.t 8) (.t 7), none⟩])
 (.seq (.cond (.t 9)
 (.skip)
 (.exit 0))
 k61_2)

def k61_4 : ACode :=
 .seq (.seq (.region [
 ⟨(some 6), .mv (.t 0), none⟩,
 ⟨(some 7), .len false (.t 6), none⟩,
 ⟨(some 8), .mv (.c (.int .i64 0)), none⟩])
 (.block 0 (
 .loop b61_3)))
 (.seq (.region [
 ⟨(some 4), .mv (.c (.int .i64 (-1))), none⟩])
 (.ret))

def c61 : ACode :=
 .seq (.region [
 ⟨(some 4), .mv (.c (.int .i64 0)), none⟩])
 k61_4
theorem ok61 : fnOk Try.prog 61 c61 19 [.t 4] = true := by kernel_rfl

def k74_0 : ACode :=
 .seq (.region [
 ⟨(some 5), .mv (.t 0), none⟩,
 ⟨(some 6), .mv (.t 1), none⟩,
 ⟨(some 7), .call 97 [(.t 5), (.t 6)], none⟩,
 ⟨(some 8), .bin .geq (.t 7) (.c (.int .i64 0)), none⟩,
 ⟨(some 4), .mv (.t 8), none⟩])
 (.ret)

def c74 : ACode :=
 .seq (.region [
 ⟨(some 4), .mv (.c (.bool false)), none⟩])
 k74_0
theorem ok74 : fnOk Try.prog 74 c74 9 [.t 4] = true := by kernel_rfl

def k76_0 : ACode :=
 .seq (.region [
 ⟨(some 5), .mv (.t 0), none⟩,
 ⟨(some 6), .mv (.t 1), none⟩,
 ⟨(some 7), .call 100 [(.t 5), (.t 6)], none⟩,
 ⟨(some 8), .bin .geq (.t 7) (.c (.int .i64 0)), none⟩,
 ⟨(some 4), .mv (.t 8), none⟩])
 (.ret)

def c76 : ACode :=
 .seq (.region [
 ⟨(some 4), .mv (.c (.bool false)), none⟩])
 k76_0
theorem ok76 : fnOk Try.prog 76 c76 9 [.t 4] = true := by kernel_rfl

def k96_0 : ACode :=
 .seq (.region [
 ⟨(some 7), .mv (.t 0), none⟩,
 ⟨(some 8), .mv (.t 1), none⟩,
 ⟨(some 9), .call 110 [(.t 7), (.t 8)], none⟩,
 ⟨(some 10), .ext (.t 9) 0, none⟩,
 ⟨(some 11), .ext (.t 9) 1, none⟩,
 ⟨(some 12), .ext (.t 9) 2, none⟩,
 ⟨(some 4), .mv (.t 10), none⟩,
 ⟨(some 5), .mv (.t 11), none⟩,
 ⟨(some 6), .mv (.t 12), none⟩])
 (.ret)

def c96 : ACode :=
 .seq (.region [
 ⟨(some 4), .mv (.c (.str [])), none⟩,
 ⟨(some 5), .mv (.c (.str [])), none⟩,
 ⟨(some 6), .mv (.c (.bool false)), none⟩])
 k96_0
theorem ok96 : fnOk Try.prog 96 c96 13 [.t 4, .t 5, .t 6] = true := by kernel_rfl

def k97_0 : ACode :=
 .seq (.region [
 ⟨(some 5), .mv (.t 0), none⟩,
 ⟨(some 6), .mv (.t 1), none⟩,
 ⟨(some 7), .call 111 [(.t 5), (.t 6)], none⟩,
 ⟨(some 4), .mv (.t 7), none⟩])
 (.ret)

def c97 : ACode :=
 .seq (.region [
 ⟨(some 4), .mv (.c (.int .i64 0)), none⟩])
 k97_0
theorem ok97 : fnOk Try.prog 97 c97 8 [.t 4] = true := by kernel_rfl

def k99_0 : ACode :=
 .seq (.region [
 ⟨(some 5), .mv (.t 0), none⟩,
 ⟨(some 6), .mv (.t 1), none⟩,
 ⟨(some 7), .call 112 [(.t 5), (.t 6)], none⟩,
 ⟨(some 8), .bin .geq (.t 7) (.c (.int .i64 0)), none⟩,
 ⟨(some 4), .mv (.t 8), none⟩])
 (.ret)

def c99 : ACode :=
 .seq (.region [
 ⟨(some 4), .mv (.c (.bool false)), none⟩])
 k99_0
theorem ok99 : fnOk Try.prog 99 c99 9 [.t 4] = true := by kernel_rfl

def k100_0 : ACode :=
 .cond (.t 12)
 (.seq (.region [
 ⟨(some 4), .mv (.c (.int .i64 (-1))), none⟩])
 (.ret))
 (.skip)

def k100_1 : ACode :=
 .seq (.region [
 ⟨(some 21), .mv (.t 0), none⟩,
 ⟨(some 22), .mv (.t 5), none⟩,
 ⟨(some 23), .call 113 [(.t 21), (.t 22)], none⟩,
 ⟨(some 4), .mv (.t 23), none⟩])
 (.ret)

def k100_2 : ACode :=
 .seq (.seq (.region [
 ⟨(some 19), .mv (.t 5), none⟩,
 ⟨(some 20), .bin .geq (.t 19) (.c (.int .i32 128)), none⟩])
 (.cond (.t 20)
 (.region [
 ⟨(some 5), .mv (.c (.int .i32 65533)), none⟩])
 (.skip)))
 k100_1

def k100_3 : ACode :=
 .seq (.region [
 ⟨(some 16), .mv (.t 1), none⟩,
 ⟨(some 17), .ixstr (.t 16) (.c (.int .i64 0)), none⟩,
 ⟨(some 18), .cvt .i32 (.t 17), none⟩,
 ⟨(some 5), .mv (.t 18), none⟩])
 k100_2

def k100_4 : ACode :=
 .cond (.t 42)
 (.seq (.region [
 ⟨(some 43), .mv (.t 8), none⟩,
 ⟨(some 4), .mv (.t 43), none⟩])
 (.ret))
 (.skip)

def k100_5 : ACode :=
 .seq (.block 1 (
 .seq (.region [
 ⟨(some 39), .mv (.t 0), none⟩,
 ⟨(some 40), .mv (.t 8), none⟩,
 ⟨(some 41), .ixstr (.t 39) (.t 40), none⟩,
 ⟨(some 42), .call 116 [(.t 6), (.t 41)], none⟩])
 k100_4))
 (.region [
 ⟨(some 37), .mv (.t 8), none⟩,
 ⟨(some 38), .bin .add (.t 37) (.c (.int .i64 1)), none⟩,
 ⟨(some 8), .mv (.t 38), none⟩])

def b100_6 : ACode :=
 .seq (.seq (.region [
 ⟨(some 33), .mv (.t 8), none⟩,
 ⟨(some 34), .mv (.t 0), none⟩,
 ⟨(some 35), .len true (.t 34), none⟩,
 ⟨(some 36), .bin .lss (.t 33) (.t 35), none⟩])
 (.cond (.t 36)
 (.skip)
 (.exit 0)))
 k100_5

def k100_7 : ACode :=
 .seq (.seq (.region [
 ⟨(some 8), .mv (.c (.int .i64 0)), none⟩])
 (.block 0 (
 .loop b100_6)))
 (.seq (.region [
 ⟨(some 4), .mv (.c (.int .i64 (-1))), none⟩])
 (.ret))

def k100_8 : ACode :=
 .seq (.region [
 ⟨(some 32), .mv (.t 7), none⟩])
 (.cond (.t 32)
 k100_7
 (.skip))

def k100_9 : ACode :=
 .seq (.region [
 ⟨(some 28), .mv (.t 1), none⟩,
 ⟨(some 29), .call 115 [(.t 28)], none⟩,
 ⟨(some 27), .mv (.t 29), none⟩,
 ⟨(some 30), .ext (.t 27) 0, none⟩,
 ⟨(some 31), .ext (.t 27) 1, none⟩,
 ⟨(some 6), .new [.bool false, .bool false, .bool false, .bool false, .bool false, .bool false, .bool false, .bool false, .bool false, .bool false, .bool false, .bool false, .bool false, .bool false, .bool false, .bool false, .bool false, .bool false, .bool false, .bool false, .bool false, .bool false, .bool false, .bool false, .bool false, .bool false, .bool false, .bool false, .bool false, .bool false, .bool false, .bool false, .bool false, .bool false, .bool false, .bool false, .bool false, .bool false, .bool false, .bool false, .bool false, .bool false, .bool false, .bool false, .bool false, .bool false, .bool false, .bool false, .bool false, .bool false, .bool false, .bool false, .bool false, .bool false, .bool false, .bool false, .bool false, .bool false, .bool false, .bool false, .bool false, .bool false, .bool false, .bool false, .bool false, .bool false, .bool false, .bool false, .bool false, .bool false, .bool false, .bool false, .bool false, .bool false, .bool false, .bool false, .bool false, .bool false, .bool false, .bool false, .bool false, .bool false, .bool false, .bool false, .bool false, .bool false, .bool false, .bool false, .bool false, .bool false, .bool false, .bool false, .bool false, .bool false, .bool false, .bool false, .bool false, .bool false, .bool false, .bool false, .bool false, .bool false, .bool false, .bool false, .bool false, .bool false, .bool false, .bool false, .bool false, .bool false, .bool false, .bool false, .bool false, .bool false, .bool false, .bool false, .bool false, .bool false, .bool false, .bool false, .bool false, .bool false, .bool false, .bool false, .bool false, .bool false, .bool false, .bool false, .bool false, .bool false, .bool false, .bool false, .bool false, .bool false, .bool false, .bool false, .bool false, .bool false, .bool false, .bool false, .bool false, .bool false, .bool false, .bool false, .bool false, .bool false, .bool false, .bool false, .bool false, .bool false, .bool false, .bool false, .bool false, .bool false, .bool false, .bool false, .bool false, .bool false, .bool false, .bool false, .bool false, .bool false, .bool false, .bool false, .bool false, .bool false, .bool false, .bool false, .bool false, .bool false, .bool false, .bool false, .bool false, .bool false, .bool false, .bool false, .bool false, .bool false, .bool false, .bool false, .bool false, .bool false, .bool false, .bool false, .bool false, .bool false, .bool false, .bool false, .bool false, .bool false, .bool false, .bool false, .bool false, .bool false, .bool false, .bool false, .bool false, .bool false, .bool false, .bool false, .bool false, .bool false, .bool false, .bool false, .bool false, .bool false, .bool false, .bool false, .bool false, .bool false, .bool false, .bool false, .bool false, .bool false, .bool false, .bool false, .bool false, .bool false, .bool false, .bool false, .bool false, .bool false, .bool false, .bool false, .bool false, .bool false, .bool false, .bool false, .bool false, .bool false, .bool false, .bool false, .bool false, .bool false, .bool false, .bool false, .bool false, .bool false, .bool false, .bool false, .bool false, .bool false, .bool false, .bool false, .bool false, .bool false, .bool false, .bool false, .bool false, .bool false, .bool false, .bool false, .bool false, .bool false, .bool false, .bool false], none⟩,
 ⟨none, .st 256 (.t 6) (.t 30), none⟩,
 ⟨(some 7), .mv (.t 31), none⟩])
 k100_8

def k100_10 : ACode :=
 .cond (.t 53)
 (.seq (.region [
 ⟨(some 54), .mv (.t 9), none⟩,
 ⟨(some 4), .mv (.t 54), none⟩])
 (.ret))
 (.skip)

def k100_11 : ACode :=
 .seq (.region [
 ⟨(some 50), .mv (.t 1), none⟩,
 ⟨(some 51), .mv (.t 10), none⟩,
 ⟨(some 52), .call 113 [(.t 50), (.t 51)], none⟩,
 ⟨(some 53), .bin .geq (.t 52) (.c (.int .i64 0)), none⟩])
 k100_10

def k100_12 : ACode :=
 .block 3 (
 .seq (.region [
 ⟨(some 48), .ext (.t 46) 1, none⟩,
 ⟨(some 49), .ext (.t 46) 2, none⟩,
 ⟨(some 9), .mv (.t 48), none⟩,
 ⟨(some 10), .mv (.t 49), none⟩])
 k100_11)

def b100_13 : ACode :=
 .seq (.region [
 ⟨(some 46), .nxt (.t 45), none⟩,
 ⟨(some 47), .ext (.t 46) 0, none⟩])
 (.seq (.cond (.t 47)
 (.skip)
 (.exit 2))
 k100_12)

def k100_14 : ACode :=
 .seq (.seq (.region [
 ⟨(some 44), .mv (.t 0), none⟩,
 ⟨(some 45), .rng (.t 44), none⟩])
 (.block 2 (
 .loop b100_13)))
 (.seq (.region [
 ⟨(some 4), .mv (.c (.int .i64 (-1))), none⟩])
 (.ret))

def k100_15 : ACode :=
 .seq (.seq (.region [
 ⟨(some 24), .mv (.t 0), none⟩,
 ⟨(some 25), .len true (.t 24), none⟩,
 ⟨(some 26), .call 114 [(.t 25)], none⟩])
 (.cond (.t 26)
 k100_9
 (.skip)))
 k100_14

def k100_16 : ACode :=
 .seq (.seq (.region [
 ⟨(some 13), .mv (.t 1), none⟩,
 ⟨(some 14), .len true (.t 13), none⟩,
 ⟨(some 15), .bin .eql (.t 14) (.c (.int .i64 1)), none⟩])
 (.cond (.t 15)
 k100_3
 (.skip)))
 k100_15

def k100_17 : ACode :=
 .seq (.seq (.region [
 ⟨(some 11), .mv (.t 1), none⟩,
 ⟨(some 12), .sbin .eql (.t 11) (.c (.str [])), none⟩])
 k100_0)
 k100_16

def c100 : ACode :=
 .seq (.region [
 ⟨(some 4), .mv (.c (.int .i64 0)), none⟩])
 k100_17
theorem ok100 : fnOk Try.prog 100 c100 55 [.t 4] = true := by kernel_rfl

def k110_0 : ACode :=
 .seq (.drawn [
 (0, ⟨(some 13), .mv (.t 0), none⟩),
 (1, ⟨(some 14), .mv (.t 7), none⟩),
 (2, ⟨(some 15), .sstr (.t 13) none (some (.t 14)), none⟩),
 (3, ⟨(some 16), .mv (.t 0), none⟩),
 (4, ⟨(some 17), .mv (.t 7), none⟩),
 (5, ⟨(some 18), .mv (.t 1), none⟩),
 (6, ⟨(some 19), .len true (.t 18), none⟩),
 (7, ⟨(some 20), .bin .add (.t 17) (.t 19), none⟩),
 (8, ⟨(some 21), .sstr (.t 16) (some (.t 20)) none, none⟩),
 (9, ⟨(some 4), .mv (.t 15), none⟩),
 (10, ⟨(some 5), .mv (.t 21), none⟩),
 (11, ⟨(some 6), .mv (.c (.bool true)), none⟩)]
 [[], [], [0, 1], [], [], [], [5], [4, 6], [3, 7], [2, 0, 1, 2], [8, 9, 0, 1, 2, 3, 4, 5, 6, 7, 8, 9], [10, 0, 1, 2, 3, 4, 5, 6, 7, 8, 9, 10]] 0)
 (.ret)

def k110_1 : ACode :=
 .seq (.region [
 ⟨(some 11), .mv (.t 7), none⟩,
 ⟨(some 12), .bin .geq (.t 11) (.c (.int .i64 0)), none⟩])
 (.cond (.t 12)
 k110_0
 (.skip))

def k110_2 : ACode :=
 .seq (.region [
 ⟨(some 22), .mv (.t 0), none⟩,
 ⟨(some 4), .mv (.t 22), none⟩,
 ⟨(some 5), .mv (.c (.str [])), none⟩,
 ⟨(some 6), .mv (.c (.bool false)), none⟩])
 (.ret)

def k110_3 : ACode :=
 .seq (.seq (.region [
 ⟨(some 8), .mv (.t 0), none⟩,
 ⟨(some 9), .mv (.t 1), none⟩,
 ⟨(some 10), .call 111 [(.t 8), (.t 9)], none⟩,
 ⟨(some 7), .mv (.t 10), none⟩])
 k110_1)
 k110_2

def c110 : ACode :=
 .seq (.region [
 ⟨(some 4), .mv (.c (.str [])), none⟩,
 ⟨(some 5), .mv (.c (.str [])), none⟩,
 ⟨(some 6), .mv (.c (.bool false)), none⟩])
 k110_3
theorem ok110 : fnOk Try.prog 110 c110 23 [.t 4, .t 5, .t 6] = true := by kernel_rfl

def k111_0 : ACode :=
 .seq (.region [
 ⟨(some 27), .mv (.t 0), none⟩,
 ⟨(some 28), .mv (.t 1), none⟩,
 ⟨(some 29), .ixstr (.t 28) (.c (.int .i64 0)), none⟩,
 ⟨(some 30), .call 118 [(.t 27), (.t 29)], none⟩,
 ⟨(some 4), .mv (.t 30), none⟩])
 (.ret)

def k111_1 : ACode :=
 .seq (.wild)
 (.cond (.t 36)
 (.seq (.wild)
 (.ret))
 (.skip))

def k111_2 : ACode :=
 .cond (.t 31)
 (.seq (.region [
 ⟨(some 4), .mv (.c (.int .i64 (-1))), none⟩])
 (.ret))
 k111_1

def k111_3 : ACode :=
 .seq (.region [
 ⟨(some 32), .mv (.t 5), none⟩,
 ⟨(some 33), .mv (.t 0), none⟩,
 ⟨(some 34), .len true (.t 33), none⟩,
 ⟨(some 35), .bin .geq (.t 32) (.t 34), none⟩,
 ⟨(some 31), .mv (.t 35), none⟩])
 k111_2

def k111_4 : ACode :=
 .seq (.region [
 ⟨(some 25), .mv (.t 5), none⟩,
 ⟨(some 26), .bin .eql (.t 25) (.c (.int .i64 1)), none⟩,
 ⟨(some 24), .mv (.t 26), none⟩])
 (.cond (.t 24)
 k111_0
 k111_3)

def k111_5 : ACode :=
 .cond (.t 16)
 (.seq (.region [
 ⟨(some 4), .mv (.c (.int .i64 0)), none⟩])
 (.ret))
 k111_4

def k111_6 : ACode :=
 .cond (.t 73)
 (.seq (.region [
 ⟨(some 4), .mv (.c (.int .i64 (-1))), none⟩])
 (.ret))
 (.skip)

def k111_7 : ACode :=
 .region [
 ⟨(some 74), .mv (.t 8), none⟩,
 ⟨(some 75), .mv (.t 11), none⟩,
 ⟨(some 76), .bin .add (.t 75) (.c (.int .i64 1)), none⟩,
 ⟨(some 77), .bin .add (.t 74) (.t 76), none⟩,
 ⟨(some 8), .mv (.t 77), none⟩]

def k111_8 : ACode :=
 .seq (.seq (.region [
 ⟨(some 72), .mv (.t 11), none⟩,
 ⟨(some 73), .bin .lss (.t 72) (.c (.int .i64 0)), none⟩])
 k111_6)
 k111_7

def k111_9 : ACode :=
 .seq (.region [
 ⟨(some 65), .mv (.t 0), none⟩,
 ⟨(some 66), .mv (.t 8), none⟩,
 ⟨(some 67), .bin .add (.t 66) (.c (.int .i64 1)), none⟩,
 ⟨(some 68), .mv (.t 9), none⟩,
 ⟨(some 69), .sstr (.t 65) (some (.t 67)) (some (.t 68)), none⟩,
 ⟨(some 70), .mv (.t 6), none⟩,
 ⟨(some 71), .call 118 [(.t 69), (.t 70)], none⟩,
 ⟨(some 11), .mv (.t 71), none⟩])
 k111_8

def k111_10 : ACode :=
 .cond (.t 93)
 (.seq (.region [
 ⟨(some 94), .mv (.t 8), none⟩,
 ⟨(some 4), .mv (.t 94), none⟩])
 (.ret))
 (.skip)

def k111_11 : ACode :=
 .seq (.region [
 ⟨(some 115), .mv (.t 12), none⟩,
 ⟨(some 116), .mv (.t 8), none⟩,
 ⟨(some 117), .bin .add (.t 115) (.t 116), none⟩,
 ⟨(some 4), .mv (.t 117), none⟩])
 (.ret)

def k111_12 : ACode :=
 .seq (.seq (.region [
 ⟨(some 113), .mv (.t 12), none⟩,
 ⟨(some 114), .bin .geq (.t 113) (.c (.int .i64 0)), none⟩])
 (.cond (.t 114)
 k111_11
 (.skip)))
 (.seq (.region [
 ⟨(some 4), .mv (.c (.int .i64 (-1))), none⟩])
 (.ret))

def k111_13 : ACode :=
 .cond (.t 139)
 (.seq (.region [
 ⟨(some 4), .mv (.c (.int .i64 (-1))), none⟩])
 (.ret))
 (.skip)

def k111_14 : ACode :=
 .seq (.region [
 ⟨(some 140), .mv (.t 8), none⟩,
 ⟨(some 141), .mv (.t 13), none⟩,
 ⟨(some 142), .bin .add (.t 140) (.t 141), none⟩,
 ⟨(some 4), .mv (.t 142), none⟩])
 (.ret)

def k111_15 : ACode :=
 .seq (.seq (.region [
 ⟨(some 138), .mv (.t 13), none⟩,
 ⟨(some 139), .bin .lss (.t 138) (.c (.int .i64 0)), none⟩])
 k111_13)
 k111_14

def k111_16 : ACode :=
 .seq (.region [
 ⟨(some 133), .mv (.t 0), none⟩,
 ⟨(some 134), .mv (.t 8), none⟩,
 ⟨(some 135), .sstr (.t 133) (some (.t 134)) none, none⟩,
 ⟨(some 136), .mv (.t 1), none⟩,
 ⟨(some 137), .call 121 [(.t 135), (.t 136)], none⟩,
 ⟨(some 13), .mv (.t 137), none⟩])
 k111_15

def k111_17 : ACode :=
 .cond (.t 107)
 (.seq (.wild)
 k111_12)
 (.seq (.wild)
 (.cond (.t 132)
 k111_16
 (.skip)))

def k111_18 : ACode :=
 .seq (.region [
 ⟨(some 97), .mv (.t 10), none⟩,
 ⟨(some 98), .bin .add (.t 97) (.c (.int .i64 1)), none⟩,
 ⟨(some 10), .mv (.t 98), none⟩])
 (.seq (.wild)
 k111_17)

def k111_19 : ACode :=
 .seq (.region [
 ⟨(some 95), .mv (.t 8), none⟩,
 ⟨(some 96), .bin .add (.t 95) (.c (.int .i64 1)), none⟩,
 ⟨(some 8), .mv (.t 96), none⟩])
 k111_18

def k111_20 : ACode :=
 .seq (.seq (.region [
 ⟨(some 78), .mv (.t 0), none⟩,
 ⟨(some 79), .mv (.t 8), none⟩,
 ⟨(some 80), .bin .add (.t 79) (.c (.int .i64 1)), none⟩,
 ⟨(some 81), .ixstr (.t 78) (.t 80), none⟩,
 ⟨(some 82), .mv (.t 7), none⟩,
 ⟨(some 83), .bin .eql (.t 81) (.t 82), none⟩,
 ⟨(some 84), .mv (.t 83), none⟩,
 ⟨(some 85), .mv (.t 0), (some (84, true))⟩,
 ⟨(some 86), .mv (.t 8), (some (84, true))⟩,
 ⟨(some 87), .mv (.t 8), (some (84, true))⟩,
 ⟨(some 88), .mv (.t 5), (some (84, true))⟩,
 ⟨(some 89), .bin .add (.t 87) (.t 88), (some (84, true))⟩,
 ⟨(some 90), .sstr (.t 85) (some (.t 86)) (some (.t 89)), (some (84, true))⟩,
 ⟨(some 91), .mv (.t 1), (some (84, true))⟩,
 ⟨(some 92), .sbin .eql (.t 90) (.t 91), (some (84, true))⟩,
 ⟨(some 93), .pick (.t 84) (.t 92) (.c (.bool false)), none⟩])
 k111_10)
 k111_19

def k111_21 : ACode :=
 .block 2 (
 .seq (.seq (.region [
 ⟨(some 60), .mv (.t 0), none⟩,
 ⟨(some 61), .mv (.t 8), none⟩,
 ⟨(some 62), .ixstr (.t 60) (.t 61), none⟩,
 ⟨(some 63), .mv (.t 6), none⟩,
 ⟨(some 64), .bin .neq (.t 62) (.t 63), none⟩])
 (.cond (.t 64)
 k111_9
 (.skip)))
 k111_20)

def b111_22 : ACode :=
 .seq (.seq (.region [
 ⟨(some 57), .mv (.t 8), none⟩,
 ⟨(some 58), .mv (.t 9), none⟩,
 ⟨(some 59), .bin .lss (.t 57) (.t 58), none⟩])
 (.cond (.t 59)
 (.skip)
 (.exit 1)))
 k111_21

def k111_23 : ACode :=
 .seq (.block 1 (
 .loop b111_22))
 (.seq (.region [
 ⟨(some 4), .mv (.c (.int .i64 (-1))), none⟩])
 (.ret))

def k111_24 : ACode :=
 .seq (.region [
 ⟨(some 52), .mv (.t 0), none⟩,
 ⟨(some 53), .len true (.t 52), none⟩,
 ⟨(some 54), .mv (.t 5), none⟩,
 ⟨(some 55), .bin .sub (.t 53) (.t 54), none⟩,
 ⟨(some 56), .bin .add (.t 55) (.c (.int .i64 1)), none⟩,
 ⟨(some 9), .mv (.t 56), none⟩])
 (.seq (.region [
 ⟨(some 10), .mv (.c (.int .i64 0)), none⟩])
 k111_23)

def k111_25 : ACode :=
 .seq (.region [
 ⟨(some 50), .mv (.t 1), none⟩,
 ⟨(some 51), .ixstr (.t 50) (.c (.int .i64 1)), none⟩,
 ⟨(some 7), .mv (.t 51), none⟩])
 (.seq (.region [
 ⟨(some 8), .mv (.c (.int .i64 0)), none⟩])
 k111_24)

def k111_26 : ACode :=
 .seq (.region [
 ⟨(some 48), .mv (.t 1), none⟩,
 ⟨(some 49), .ixstr (.t 48) (.c (.int .i64 0)), none⟩,
 ⟨(some 6), .mv (.t 49), none⟩])
 k111_25

def k111_27 : ACode :=
 .seq (.block 0 (
 .seq (.region [
 ⟨(some 17), .mv (.t 5), none⟩,
 ⟨(some 18), .bin .eql (.t 17) (.c (.int .i64 0)), none⟩,
 ⟨(some 19), .mv (.t 18), none⟩,
 ⟨(some 20), .mv (.t 1), (some (19, false))⟩,
 ⟨(some 21), .mv (.t 0), (some (19, false))⟩,
 ⟨(some 22), .sbin .eql (.t 20) (.t 21), (some (19, false))⟩,
 ⟨(some 23), .pick (.t 19) (.c (.bool true)) (.t 22), none⟩,
 ⟨(some 16), .mv (.t 23), none⟩])
 k111_5))
 k111_26

def k111_28 : ACode :=
 .seq (.region [
 ⟨(some 14), .mv (.t 1), none⟩,
 ⟨(some 15), .len true (.t 14), none⟩,
 ⟨(some 5), .mv (.t 15), none⟩])
 k111_27

def c111 : ACode :=
 .seq (.region [
 ⟨(some 4), .mv (.c (.int .i64 0)), none⟩])
 k111_28
theorem ok111 : fnOk Try.prog 111 c111 143 [.t 4] = true := by kernel_rfl

def k112_0 : ACode :=
 .cond (.t 16)
 (.seq (.region [
 ⟨(some 17), .mv (.t 5), none⟩,
 ⟨(some 4), .mv (.t 17), none⟩])
 (.ret))
 (.skip)

def k112_1 : ACode :=
 .seq (.region [
 ⟨(some 11), .mv (.t 1), none⟩,
 ⟨(some 12), .mv (.t 0), none⟩,
 ⟨(some 13), .mv (.t 5), none⟩,
 ⟨(some 14), .ixs 1 (.t 12) (.t 13), none⟩,
 ⟨(some 15), .ld none (.t 14), none⟩,
 ⟨(some 16), .callv (.t 11) [(.t 15)], none⟩])
 k112_0

def k112_2 : ACode :=
 .seq (.block 1 (
 .seq (.region [
 ⟨(some 10), .mv (.t 8), none⟩,
 ⟨(some 5), .mv (.t 10), none⟩])
 k112_1))
 (.region [
 ⟨(some 18), .bin .add (.t 8) (.c (.int .i64 1)), none⟩,
 ⟨(some 8), .mv (.t 18), none⟩])

def b112_3 : ACode :=
 .seq (.region [
 ⟨(some 9), .bin .lss (.t 8) (.t 7), none⟩])
 (.seq (.cond (.t 9)
 (.skip)
 (.exit 0))
 k112_2)

def k112_4 : ACode :=
 .seq (.seq (.region [
 ⟨(some 6), .mv (.t 0), none⟩,
 ⟨(some 7), .len false (.t 6), none⟩,
 ⟨(some 8), .mv (.c (.int .i64 0)), none⟩])
 (.block 0 (
 .loop b112_3)))
 (.seq (.region [
 ⟨(some 4), .mv (.c (.int .i64 (-1))), none⟩])
 (.ret))

def c112 : ACode :=
 .seq (.region [
 ⟨(some 4), .mv (.c (.int .i64 0)), none⟩])
 k112_4
theorem ok112 : fnOk Try.prog 112 c112 19 [.t 4] = true := by kernel_rfl

def k113_0 : ACode :=
 .seq (.region [
 ⟨(some 167), .mv (.t 0), none⟩,
 ⟨(some 168), .mv (.t 1), none⟩,
 ⟨(some 169), .cvt .u8 (.t 168), none⟩,
 ⟨(some 170), .call 122 [(.t 167), (.t 169)], none⟩,
 ⟨(some 4), .mv (.t 170), none⟩])
 (.ret)

def k113_1 : ACode :=
 .cond (.t 181)
 (.seq (.region [
 ⟨(some 182), .mv (.t 5), none⟩,
 ⟨(some 4), .mv (.t 182), none⟩])
 (.ret))
 (.skip)

def k113_2 : ACode :=
 .block 10 (
 .seq (.region [
 ⟨(some 178), .ext (.t 176) 1, none⟩,
 ⟨(some 179), .ext (.t 176) 2, none⟩,
 ⟨(some 5), .mv (.t 178), none⟩,
 ⟨(some 6), .mv (.t 179), none⟩])
 (.seq (.region [
 ⟨(some 180), .mv (.t 6), none⟩,
 ⟨(some 181), .bin .eql (.t 180) (.c (.int .i32 65533)), none⟩])
 k113_1))

def b113_3 : ACode :=
 .seq (.region [
 ⟨(some 176), .nxt (.t 175), none⟩,
 ⟨(some 177), .ext (.t 176) 0, none⟩])
 (.seq (.cond (.t 177)
 (.skip)
 (.exit 9))
 k113_2)

def k113_4 : ACode :=
 .seq (.seq (.region [
 ⟨(some 174), .mv (.t 0), none⟩,
 ⟨(some 175), .rng (.t 174), none⟩])
 (.block 9 (
 .loop b113_3)))
 (.seq (.region [
 ⟨(some 4), .mv (.c (.int .i64 (-1))), none⟩])
 (.ret))

def k113_5 : ACode :=
 .cond (.t 183)
 (.seq (.region [
 ⟨(some 4), .mv (.c (.int .i64 (-1))), none⟩])
 (.ret))
 (.wild)

def k113_6 : ACode :=
 .seq (.region [
 ⟨(some 184), .mv (.t 1), none⟩,
 ⟨(some 185), .call 123 [(.t 184)], none⟩,
 ⟨(some 186), .un .not (.t 185), none⟩,
 ⟨(some 183), .mv (.t 186), none⟩])
 k113_5

def k113_7 : ACode :=
 .seq (.region [
 ⟨(some 172), .mv (.t 1), none⟩,
 ⟨(some 173), .bin .eql (.t 172) (.c (.int .i32 65533)), none⟩,
 ⟨(some 171), .mv (.t 173), none⟩])
 (.cond (.t 171)
 k113_4
 k113_6)

def k113_8 : ACode :=
 .block 0 (
 .seq (.region [
 ⟨(some 161), .mv (.t 1), none⟩,
 ⟨(some 162), .bin .leq (.c (.int .i32 0)) (.t 161), none⟩,
 ⟨(some 163), .mv (.t 162), none⟩,
 ⟨(some 164), .mv (.t 1), (some (163, true))⟩,
 ⟨(some 165), .bin .lss (.t 164) (.c (.int .i32 128)), (some (163, true))⟩,
 ⟨(some 166), .pick (.t 163) (.t 165) (.c (.bool false)), none⟩,
 ⟨(some 160), .mv (.t 166), none⟩])
 (.cond (.t 160)
 k113_0
 k113_7))

def c113 : ACode :=
 .seq (.region [
 ⟨(some 4), .mv (.c (.int .i64 0)), none⟩])
 k113_8
theorem ok113 : fnOk Try.prog 113 c113 187 [.t 4] = true := by kernel_rfl

def k114_0 : ACode :=
 .seq (.region [
 ⟨(some 3), .mv (.t 0), none⟩,
 ⟨(some 4), .bin .gtr (.t 3) (.c (.int .i64 8)), none⟩,
 ⟨(some 2), .mv (.t 4), none⟩])
 (.ret)

def c114 : ACode :=
 .seq (.region [
 ⟨(some 2), .mv (.c (.bool false)), none⟩])
 k114_0
theorem ok114 : fnOk Try.prog 114 c114 5 [.t 2] = true := by kernel_rfl

def k115_0 : ACode :=
 .seq (.region [
 ⟨(some 17), .ld (some 256) (.t 2), none⟩,
 ⟨none, .st 256 (.t 2) (.t 17), none⟩,
 ⟨(some 3), .mv (.c (.bool false)), none⟩])
 (.ret)

def k115_1 : ACode :=
 .seq (.seq (.region [
 ⟨(some 15), .mv (.t 5), none⟩,
 ⟨(some 16), .bin .geq (.t 15) (.c (.int .u8 128)), none⟩])
 (.cond (.t 16)
 k115_0
 (.skip)))
 (.region [
 ⟨(some 18), .mv (.t 5), none⟩,
 ⟨(some 19), .ixa 256 1 (.t 2) (.t 18), none⟩,
 ⟨none, .st 1 (.t 19) (.c (.bool true)), none⟩])

def k115_2 : ACode :=
 .seq (.block 1 (
 .seq (.region [
 ⟨(some 12), .mv (.t 0), none⟩,
 ⟨(some 13), .mv (.t 4), none⟩,
 ⟨(some 14), .ixstr (.t 12) (.t 13), none⟩,
 ⟨(some 5), .mv (.t 14), none⟩])
 k115_1))
 (.region [
 ⟨(some 10), .mv (.t 4), none⟩,
 ⟨(some 11), .bin .add (.t 10) (.c (.int .i64 1)), none⟩,
 ⟨(some 4), .mv (.t 11), none⟩])

def b115_3 : ACode :=
 .seq (.seq (.region [
 ⟨(some 6), .mv (.t 4), none⟩,
 ⟨(some 7), .mv (.t 0), none⟩,
 ⟨(some 8), .len true (.t 7), none⟩,
 ⟨(some 9), .bin .lss (.t 6) (.t 8), none⟩])
 (.cond (.t 9)
 (.skip)
 (.exit 0)))
 k115_2

def k115_4 : ACode :=
 .seq (.region [
 ⟨(some 20), .ld (some 256) (.t 2), none⟩,
 ⟨none, .st 256 (.t 2) (.t 20), none⟩,
 ⟨(some 3), .mv (.c (.bool true)), none⟩])
 (.ret)

def k115_5 : ACode :=
 .seq (.seq (.region [
 ⟨(some 4), .mv (.c (.int .i64 0)), none⟩])
 (.block 0 (
 .loop b115_3)))
 k115_4

def c115 : ACode :=
 .seq (.region [
 ⟨(some 2), .new [.bool false, .bool false, .bool false, .bool false, .bool false, .bool false, .bool false, .bool false, .bool false, .bool false, .bool false, .bool false, .bool false, .bool false, .bool false, .bool false, .bool false, .bool false, .bool false, .bool false, .bool false, .bool false, .bool false, .bool false, .bool false, .bool false, .bool false, .bool false, .bool false, .bool false, .bool false, .bool false, .bool false, .bool false, .bool false, .bool false, .bool false, .bool false, .bool false, .bool false, .bool false, .bool false, .bool false, .bool false, .bool false, .bool false, .bool false, .bool false, .bool false, .bool false, .bool false, .bool false, .bool false, .bool false, .bool false, .bool false, .bool false, .bool false, .bool false, .bool false, .bool false, .bool false, .bool false, .bool false, .bool false, .bool false, .bool false, .bool false, .bool false, .bool false, .bool false, .bool false, .bool false, .bool false, .bool false, .bool false, .bool false, .bool false, .bool false, .bool false, .bool false, .bool false, .bool false, .bool false, .bool false, .bool false, .bool false, .bool false, .bool false, .bool false, .bool false, .bool false, .bool false, .bool false, .bool false, .bool false, .bool false, .bool false, .bool false, .bool false, .bool false, .bool false, .bool false, .bool false, .bool false, .bool false, .bool false, .bool false, .bool false, .bool false, .bool false, .bool false, .bool false, .bool false, .bool false, .bool false, .bool false, .bool false, .bool false, .bool false, .bool false, .bool false, .bool false, .bool false, .bool false, .bool false, .bool false, .bool false, .bool false, .bool false, .bool false, .bool false, .bool false, .bool false, .bool false, .bool false, .bool false, .bool false, .bool false, .bool false, .bool false, .bool false, .bool false, .bool false, .bool false, .bool false, .bool false, .bool false, .bool false, .bool false, .bool false, .bool false, .bool false, .bool false, .bool false, .bool false, .bool false, .bool false, .bool false, .bool false, .bool false, .bool false, .bool false, .bool false, .bool false, .bool false, .bool false, .bool false, .bool false, .bool false, .bool false, .bool false, .bool false, .bool false, .bool false, .bool false, .bool false, .bool false, .bool false, .bool false, .bool false, .bool false, .bool false, .bool false, .bool false, .bool false, .bool false, .bool false, .bool false, .bool false, .bool false, .bool false, .bool false, .bool false, .bool false, .bool false, .bool false, .bool false, .bool false, .bool false, .bool false, .bool false, .bool false, .bool false, .bool false, .bool false, .bool false, .bool false, .bool false, .bool false, .bool false, .bool false, .bool false, .bool false, .bool false, .bool false, .bool false, .bool false, .bool false, .bool false, .bool false, .bool false, .bool false, .bool false, .bool false, .bool false, .bool false, .bool false, .bool false, .bool false, .bool false, .bool false, .bool false, .bool false, .bool false, .bool false, .bool false, .bool false, .bool false, .bool false, .bool false, .bool false, .bool false, .bool false, .bool false, .bool false, .bool false, .bool false, .bool false, .bool false, .bool false, .bool false, .bool false, .bool false, .bool false, .bool false], none⟩,
 ⟨(some 3), .mv (.c (.bool false)), none⟩])
 k115_5
theorem ok115 : fnOk Try.prog 115 c115 21 [.c 2 (some 256), .t 3] = true := by kernel_rfl

def k116_0 : ACode :=
 .seq (.region [
 ⟨(some 5), .mv (.t 0), none⟩,
 ⟨(some 6), .mv (.t 1), none⟩,
 ⟨(some 7), .nck (.t 5), none⟩,
 ⟨(some 8), .ixa 256 1 (.t 7) (.t 6), none⟩,
 ⟨(some 9), .ld none (.t 8), none⟩,
 ⟨(some 4), .mv (.t 9), none⟩])
 (.ret)

def c116 : ACode :=
 .seq (.region [
 ⟨(some 4), .mv (.c (.bool false)), none⟩])
 k116_0
theorem ok116 : fnOk Try.prog 116 c116 10 [.t 4] = true := by kernel_rfl

def c118 : ACode :=
 .seq (.region [
 ⟨(some 4), .mv (.c (.int .i64 0)), none⟩])
 (.seq (.wild)
 (.ret))
theorem ok118 : fnOk Try.prog 118 c118 8 [.t 4] = true := by kernel_rfl

def k120_0 : ACode :=
 .seq (.region [
 ⟨(some 3), .mv (.t 0), none⟩,
 ⟨(some 4), .bin .add (.t 3) (.c (.int .i64 16)), none⟩,
 ⟨(some 5), .bin .quo (.t 4) (.c (.int .i64 8)), none⟩,
 ⟨(some 2), .mv (.t 5), none⟩])
 (.ret)

def c120 : ACode :=
 .seq (.region [
 ⟨(some 2), .mv (.c (.int .i64 0)), none⟩])
 k120_0
theorem ok120 : fnOk Try.prog 120 c120 6 [.t 2] = true := by kernel_rfl

def k121_0 : ACode :=
 .seq (.block 1 (
 .region [
 ⟨(some 23), .mv (.t 8), none⟩,
 ⟨(some 24), .bin .mul (.t 23) (.c (.int .u32 16777619)), none⟩,
 ⟨(some 25), .mv (.t 0), none⟩,
 ⟨(some 26), .mv (.t 9), none⟩,
 ⟨(some 27), .ixstr (.t 25) (.t 26), none⟩,
 ⟨(some 28), .cvt .u32 (.t 27), none⟩,
 ⟨(some 29), .bin .add (.t 24) (.t 28), none⟩,
 ⟨(some 8), .mv (.t 29), none⟩]))
 (.region [
 ⟨(some 21), .mv (.t 9), none⟩,
 ⟨(some 22), .bin .add (.t 21) (.c (.int .i64 1)), none⟩,
 ⟨(some 9), .mv (.t 22), none⟩])

def b121_1 : ACode :=
 .seq (.seq (.region [
 ⟨(some 18), .mv (.t 9), none⟩,
 ⟨(some 19), .mv (.t 7), none⟩,
 ⟨(some 20), .bin .lss (.t 18) (.t 19), none⟩])
 (.cond (.t 20)
 (.skip)
 (.exit 0)))
 k121_0

def k121_2 : ACode :=
 .cond (.t 39)
 (.seq (.region [
 ⟨(some 4), .mv (.c (.int .i64 0)), none⟩])
 (.ret))
 (.skip)

def k121_3 : ACode :=
 .seq (.region [
 ⟨(some 78), .mv (.t 10), none⟩,
 ⟨(some 79), .mv (.t 7), none⟩,
 ⟨(some 80), .bin .sub (.t 78) (.t 79), none⟩,
 ⟨(some 4), .mv (.t 80), none⟩])
 (.ret)

def k121_4 : ACode :=
 .seq (.region [
 ⟨(some 65), .mv (.t 8), none⟩,
 ⟨(some 66), .mv (.t 5), none⟩,
 ⟨(some 67), .bin .eql (.t 65) (.t 66), none⟩,
 ⟨(some 68), .mv (.t 67), none⟩,
 ⟨(some 69), .mv (.t 0), (some (68, true))⟩,
 ⟨(some 70), .mv (.t 10), (some (68, true))⟩,
 ⟨(some 71), .mv (.t 7), (some (68, true))⟩,
 ⟨(some 72), .bin .sub (.t 70) (.t 71), (some (68, true))⟩,
 ⟨(some 73), .mv (.t 10), (some (68, true))⟩,
 ⟨(some 74), .sstr (.t 69) (some (.t 72)) (some (.t 73)), (some (68, true))⟩,
 ⟨(some 75), .mv (.t 1), (some (68, true))⟩,
 ⟨(some 76), .sbin .eql (.t 74) (.t 75), (some (68, true))⟩,
 ⟨(some 77), .pick (.t 68) (.t 76) (.c (.bool false)), none⟩])
 (.cond (.t 77)
 k121_3
 (.skip))

def k121_5 : ACode :=
 .seq (.region [
 ⟨(some 63), .mv (.t 10), none⟩,
 ⟨(some 64), .bin .add (.t 63) (.c (.int .i64 1)), none⟩,
 ⟨(some 10), .mv (.t 64), none⟩])
 k121_4

def k121_6 : ACode :=
 .seq (.region [
 ⟨(some 53), .mv (.t 8), none⟩,
 ⟨(some 54), .mv (.t 6), none⟩,
 ⟨(some 55), .mv (.t 0), none⟩,
 ⟨(some 56), .mv (.t 10), none⟩,
 ⟨(some 57), .mv (.t 7), none⟩,
 ⟨(some 58), .bin .sub (.t 56) (.t 57), none⟩,
 ⟨(some 59), .ixstr (.t 55) (.t 58), none⟩,
 ⟨(some 60), .cvt .u32 (.t 59), none⟩,
 ⟨(some 61), .bin .mul (.t 54) (.t 60), none⟩,
 ⟨(some 62), .bin .sub (.t 53) (.t 61), none⟩,
 ⟨(some 8), .mv (.t 62), none⟩])
 k121_5

def k121_7 : ACode :=
 .seq (.region [
 ⟨(some 47), .mv (.t 8), none⟩,
 ⟨(some 48), .mv (.t 0), none⟩,
 ⟨(some 49), .mv (.t 10), none⟩,
 ⟨(some 50), .ixstr (.t 48) (.t 49), none⟩,
 ⟨(some 51), .cvt .u32 (.t 50), none⟩,
 ⟨(some 52), .bin .add (.t 47) (.t 51), none⟩,
 ⟨(some 8), .mv (.t 52), none⟩])
 k121_6

def k121_8 : ACode :=
 .block 3 (
 .seq (.region [
 ⟨(some 45), .mv (.t 8), none⟩,
 ⟨(some 46), .bin .mul (.t 45) (.c (.int .u32 16777619)), none⟩,
 ⟨(some 8), .mv (.t 46), none⟩])
 k121_7)

def b121_9 : ACode :=
 .seq (.seq (.region [
 ⟨(some 41), .mv (.t 10), none⟩,
 ⟨(some 42), .mv (.t 0), none⟩,
 ⟨(some 43), .len true (.t 42), none⟩,
 ⟨(some 44), .bin .lss (.t 41) (.t 43), none⟩])
 (.cond (.t 44)
 (.skip)
 (.exit 2)))
 k121_8

def k121_10 : ACode :=
 .seq (.seq (.region [
 ⟨(some 40), .mv (.t 7), none⟩,
 ⟨(some 10), .mv (.t 40), none⟩])
 (.block 2 (
 .loop b121_9)))
 (.seq (.region [
 ⟨(some 4), .mv (.c (.int .i64 (-1))), none⟩])
 (.ret))

def k121_11 : ACode :=
 .seq (.seq (.region [
 ⟨(some 30), .mv (.t 8), none⟩,
 ⟨(some 31), .mv (.t 5), none⟩,
 ⟨(some 32), .bin .eql (.t 30) (.t 31), none⟩,
 ⟨(some 33), .mv (.t 32), none⟩,
 ⟨(some 34), .mv (.t 0), (some (33, true))⟩,
 ⟨(some 35), .mv (.t 7), (some (33, true))⟩,
 ⟨(some 36), .sstr (.t 34) none (some (.t 35)), (some (33, true))⟩,
 ⟨(some 37), .mv (.t 1), (some (33, true))⟩,
 ⟨(some 38), .sbin .eql (.t 36) (.t 37), (some (33, true))⟩,
 ⟨(some 39), .pick (.t 33) (.t 38) (.c (.bool false)), none⟩])
 k121_2)
 k121_10

def k121_12 : ACode :=
 .seq (.seq (.region [
 ⟨(some 9), .mv (.c (.int .i64 0)), none⟩])
 (.block 0 (
 .loop b121_1)))
 k121_11

def k121_13 : ACode :=
 .seq (.region [
 ⟨(some 16), .mv (.t 1), none⟩,
 ⟨(some 17), .len true (.t 16), none⟩,
 ⟨(some 7), .mv (.t 17), none⟩])
 (.seq (.region [
 ⟨(some 8), .mv (.c (.int .u32 0)), none⟩])
 k121_12)

def k121_14 : ACode :=
 .seq (.region [
 ⟨(some 12), .mv (.t 1), none⟩,
 ⟨(some 13), .call 126 [(.t 12)], none⟩,
 ⟨(some 11), .mv (.t 13), none⟩,
 ⟨(some 14), .ext (.t 11) 0, none⟩,
 ⟨(some 15), .ext (.t 11) 1, none⟩,
 ⟨(some 5), .mv (.t 14), none⟩,
 ⟨(some 6), .mv (.t 15), none⟩])
 k121_13

def c121 : ACode :=
 .seq (.region [
 ⟨(some 4), .mv (.c (.int .i64 0)), none⟩])
 k121_14
theorem ok121 : fnOk Try.prog 121 c121 81 [.t 4] = true := by kernel_rfl

def k122_0 : ACode :=
 .seq (.region [
 ⟨(some 5), .mv (.t 0), none⟩,
 ⟨(some 6), .mv (.t 1), none⟩,
 ⟨(some 7), .call 118 [(.t 5), (.t 6)], none⟩,
 ⟨(some 4), .mv (.t 7), none⟩])
 (.ret)

def c122 : ACode :=
 .seq (.region [
 ⟨(some 4), .mv (.c (.int .i64 0)), none⟩])
 k122_0
theorem ok122 : fnOk Try.prog 122 c122 8 [.t 4] = true := by kernel_rfl

def k123_0 : ACode :=
 .cond (.t 10)
 (.seq (.region [
 ⟨(some 2), .mv (.c (.bool true)), none⟩])
 (.ret))
 (.skip)

def k123_1 : ACode :=
 .seq (.region [
 ⟨(some 11), .mv (.t 0), none⟩,
 ⟨(some 12), .bin .lss (.c (.int .i32 57343)) (.t 11), none⟩,
 ⟨(some 13), .mv (.t 12), none⟩,
 ⟨(some 14), .mv (.t 0), (some (13, true))⟩,
 ⟨(some 15), .bin .leq (.t 14) (.c (.int .i32 1114111)), (some (13, true))⟩,
 ⟨(some 16), .pick (.t 13) (.t 15) (.c (.bool false)), none⟩,
 ⟨(some 10), .mv (.t 16), none⟩])
 k123_0

def k123_2 : ACode :=
 .cond (.t 3)
 (.seq (.region [
 ⟨(some 2), .mv (.c (.bool true)), none⟩])
 (.ret))
 k123_1

def k123_3 : ACode :=
 .seq (.block 0 (
 .seq (.region [
 ⟨(some 4), .mv (.t 0), none⟩,
 ⟨(some 5), .bin .leq (.c (.int .i32 0)) (.t 4), none⟩,
 ⟨(some 6), .mv (.t 5), none⟩,
 ⟨(some 7), .mv (.t 0), (some (6, true))⟩,
 ⟨(some 8), .bin .lss (.t 7) (.c (.int .i32 55296)), (some (6, true))⟩,
 ⟨(some 9), .pick (.t 6) (.t 8) (.c (.bool false)), none⟩,
 ⟨(some 3), .mv (.t 9), none⟩])
 k123_2))
 (.seq (.region [
 ⟨(some 2), .mv (.c (.bool false)), none⟩])
 (.ret))

def c123 : ACode :=
 .seq (.region [
 ⟨(some 2), .mv (.c (.bool false)), none⟩])
 k123_3
theorem ok123 : fnOk Try.prog 123 c123 17 [.t 2] = true := by kernel_rfl

def k124_0 : ACode :=
 .cond (.t 4)
 (.seq (.region [
 ⟨(some 2), .mv (.c (.lit (.slice none 0 0))), none⟩])
 (.ret))
 (.skip)

def k124_1 : ACode :=
 .seq (.region [
 ⟨(some 5), .bsl 1 0 [.int .i64 0] [], none⟩,
 ⟨(some 6), .mv (.t 0), none⟩,
 ⟨(some 7), .app 1 8 (.t 5) (.t 6), none⟩,
 ⟨(some 2), .mv (.t 7), none⟩])
 (.ret)

def k124_2 : ACode :=
 .seq (.seq (.region [
 ⟨(some 3), .mv (.t 0), none⟩,
 ⟨(some 4), .isNil false 1 (.t 3), none⟩])
 k124_0)
 k124_1

def c124 : ACode :=
 .seq (.region [
 ⟨(some 2), .mv (.c (.lit (.slice none 0 0))), none⟩])
 k124_2
theorem ok124 : fnOk Try.prog 124 c124 8 [.t 2] = true := by kernel_rfl

def k126_0 : ACode :=
 .seq (.block 1 (
 .region [
 ⟨(some 15), .mv (.t 4), none⟩,
 ⟨(some 16), .bin .mul (.t 15) (.c (.int .u32 16777619)), none⟩,
 ⟨(some 17), .mv (.t 0), none⟩,
 ⟨(some 18), .mv (.t 5), none⟩,
 ⟨(some 19), .ixstr (.t 17) (.t 18), none⟩,
 ⟨(some 20), .cvt .u32 (.t 19), none⟩,
 ⟨(some 21), .bin .add (.t 16) (.t 20), none⟩,
 ⟨(some 4), .mv (.t 21), none⟩]))
 (.region [
 ⟨(some 13), .mv (.t 5), none⟩,
 ⟨(some 14), .bin .add (.t 13) (.c (.int .i64 1)), none⟩,
 ⟨(some 5), .mv (.t 14), none⟩])

def b126_1 : ACode :=
 .seq (.seq (.region [
 ⟨(some 9), .mv (.t 5), none⟩,
 ⟨(some 10), .mv (.t 0), none⟩,
 ⟨(some 11), .len true (.t 10), none⟩,
 ⟨(some 12), .bin .lss (.t 9) (.t 11), none⟩])
 (.cond (.t 12)
 (.skip)
 (.exit 0)))
 k126_0

def k126_2 : ACode :=
 .region [
 ⟨(some 31), .mv (.t 6), none⟩,
 ⟨(some 32), .mv (.t 7), none⟩,
 ⟨(some 33), .bin .mul (.t 31) (.t 32), none⟩,
 ⟨(some 6), .mv (.t 33), none⟩]

def k126_3 : ACode :=
 .region [
 ⟨(some 34), .mv (.t 7), none⟩,
 ⟨(some 35), .mv (.t 7), none⟩,
 ⟨(some 36), .bin .mul (.t 34) (.t 35), none⟩,
 ⟨(some 7), .mv (.t 36), none⟩]

def k126_4 : ACode :=
 .seq (.block 3 (
 .seq (.seq (.region [
 ⟨(some 28), .mv (.t 8), none⟩,
 ⟨(some 29), .bin .and (.t 28) (.c (.int .i64 1)), none⟩,
 ⟨(some 30), .bin .neq (.t 29) (.c (.int .i64 0)), none⟩])
 (.cond (.t 30)
 k126_2
 (.skip)))
 k126_3))
 (.region [
 ⟨(some 26), .mv (.t 8), none⟩,
 ⟨(some 27), .bin .shr (.t 26) (.c (.int .u64 1)), none⟩,
 ⟨(some 8), .mv (.t 27), none⟩])

def b126_5 : ACode :=
 .seq (.seq (.region [
 ⟨(some 24), .mv (.t 8), none⟩,
 ⟨(some 25), .bin .gtr (.t 24) (.c (.int .i64 0)), none⟩])
 (.cond (.t 25)
 (.skip)
 (.exit 2)))
 k126_4

def k126_6 : ACode :=
 .seq (.region [
 ⟨(some 37), .mv (.t 4), none⟩,
 ⟨(some 38), .mv (.t 6), none⟩,
 ⟨(some 2), .mv (.t 37), none⟩,
 ⟨(some 3), .mv (.t 38), none⟩])
 (.ret)

def k126_7 : ACode :=
 .seq (.seq (.region [
 ⟨(some 22), .mv (.t 0), none⟩,
 ⟨(some 23), .len true (.t 22), none⟩,
 ⟨(some 8), .mv (.t 23), none⟩])
 (.block 2 (
 .loop b126_5)))
 k126_6

def k126_8 : ACode :=
 .seq (.seq (.region [
 ⟨(some 5), .mv (.c (.int .i64 0)), none⟩])
 (.block 0 (
 .loop b126_1)))
 (.seq (.region [
 ⟨(some 6), .mv (.c (.int .u32 1)), none⟩,
 ⟨(some 7), .mv (.c (.int .u32 16777619)), none⟩])
 k126_7)

def c126 : ACode :=
 .seq (.region [
 ⟨(some 2), .mv (.c (.int .u32 0)), none⟩,
 ⟨(some 3), .mv (.c (.int .u32 0)), none⟩])
 (.seq (.region [
 ⟨(some 4), .mv (.c (.int .u32 0)), none⟩])
 k126_8)
theorem ok126 : fnOk Try.prog 126 c126 39 [.t 2, .t 3] = true := by kernel_rfl

end Go.Proofs.Ytipigjckoejfpaa.Ax

/- The code of functions of the program, for our abstract machine; each is tied to the program by a closed test. Written by gen.py. Conditions: none. -/
namespace Go.Proofs.Ytipigjckoejfpaa.Ax
open Go Go.Ax
set_option maxRecDepth 100000

def k15_0 : ACode :=
 .cond (.t 24)
 (.seq (.region [
 ⟨(some 2), .mv (.c (.bool false)), none⟩])
 (.ret))
 (.skip)

def k15_1 : ACode :=
 .seq (.region [
 ⟨(some 25), .ld (some 5) (.t 1), none⟩,
 ⟨(some 26), .call 41 [(.t 25)], none⟩,
 ⟨(some 27), .mv (.t 26), none⟩,
 ⟨(some 28), .ld (some 5) (.t 1), (some (27, true))⟩,
 ⟨(some 29), .call 42 [(.t 28)], (some (27, true))⟩,
 ⟨(some 30), .pick (.t 27) (.t 29) (.c (.bool false)), none⟩,
 ⟨(some 31), .mv (.t 30), none⟩,
 ⟨(some 32), .ld (some 5) (.t 1), (some (31, true))⟩,
 ⟨(some 33), .call 43 [(.t 32)], (some (31, true))⟩,
 ⟨(some 34), .pick (.t 31) (.t 33) (.c (.bool false)), none⟩,
 ⟨(some 35), .mv (.t 34), none⟩,
 ⟨(some 36), .ld (some 5) (.t 1), (some (35, true))⟩,
 ⟨(some 37), .call 44 [(.t 36)], (some (35, true))⟩,
 ⟨(some 38), .un .not (.t 37), (some (35, true))⟩,
 ⟨(some 39), .pick (.t 35) (.t 38) (.c (.bool false)), none⟩,
 ⟨(some 40), .mv (.t 39), none⟩,
 ⟨(some 41), .ld (some 5) (.t 1), (some (40, true))⟩,
 ⟨(some 42), .call 28 [(.t 41)], (some (40, true))⟩,
 ⟨(some 43), .call 27 [(.t 42)], (some (40, true))⟩,
 ⟨(some 44), .pick (.t 40) (.t 43) (.c (.bool false)), none⟩,
 ⟨(some 45), .mv (.t 44), none⟩,
 ⟨(some 46), .ld (some 5) (.t 1), (some (45, true))⟩,
 ⟨(some 47), .call 45 [(.t 46)], (some (45, true))⟩,
 ⟨(some 48), .pick (.t 45) (.t 47) (.c (.bool false)), none⟩,
 ⟨(some 2), .mv (.t 48), none⟩])
 (.ret)

def k15_2 : ACode :=
 .seq (.seq (.region [
 ⟨(some 3), .fld 0 (.t 1), none⟩,
 ⟨(some 4), .ld (some 3) (.t 3), none⟩,
 ⟨(some 5), .call 40 [(.t 4)], none⟩,
 ⟨(some 6), .un .not (.t 5), none⟩,
 ⟨(some 7), .mv (.t 6), none⟩,
 ⟨(some 8), .fld 3 (.t 1), (some (7, false))⟩,
 ⟨(some 9), .ld none (.t 8), (some (7, false))⟩,
 ⟨(some 10), .len false (.t 9), (some (7, false))⟩,
 ⟨(some 11), .fld 0 (.t 1), (some (7, false))⟩,
 ⟨(some 12), .fld 1 (.t 11), (some (7, false))⟩,
 ⟨(some 13), .ld none (.t 12), (some (7, false))⟩,
 ⟨(some 14), .bin .neq (.t 10) (.t 13), (some (7, false))⟩,
 ⟨(some 15), .pick (.t 7) (.c (.bool true)) (.t 14), none⟩,
 ⟨(some 16), .mv (.t 15), none⟩,
 ⟨(some 17), .fld 4 (.t 1), (some (16, false))⟩,
 ⟨(some 18), .ld none (.t 17), (some (16, false))⟩,
 ⟨(some 19), .len false (.t 18), (some (16, false))⟩,
 ⟨(some 20), .fld 0 (.t 1), (some (16, false))⟩,
 ⟨(some 21), .fld 2 (.t 20), (some (16, false))⟩,
 ⟨(some 22), .ld none (.t 21), (some (16, false))⟩,
 ⟨(some 23), .bin .neq (.t 19) (.t 22), (some (16, false))⟩,
 ⟨(some 24), .pick (.t 16) (.c (.bool true)) (.t 23), none⟩])
 k15_0)
 k15_1

def c15 : ACode :=
 .seq (.region [
 ⟨(some 1), .box (.t 0), none⟩,
 ⟨(some 2), .mv (.c (.bool false)), none⟩])
 k15_2
theorem ok15 : fnOk Try.prog 15 c15 49 [.t 2] = true := by kernel_rfl

def k17_0 : ACode :=
 .seq (.region [
 ⟨(some 5), .fld 0 (.t 2), none⟩,
 ⟨(some 6), .ld (some 3) (.t 5), none⟩,
 ⟨(some 7), .fld 0 (.t 3), none⟩,
 ⟨(some 8), .ld (some 3) (.t 7), none⟩,
 ⟨(some 9), .eqs false [0, 0, 0] (.t 6) (.t 8), none⟩,
 ⟨(some 10), .mv (.t 9), none⟩,
 ⟨(some 11), .fld 3 (.t 2), (some (10, true))⟩,
 ⟨(some 12), .ld none (.t 11), (some (10, true))⟩,
 ⟨(some 13), .fld 3 (.t 3), (some (10, true))⟩,
 ⟨(some 14), .ld none (.t 13), (some (10, true))⟩,
 ⟨(some 15), .call 51 [(.t 12), (.t 14)], (some (10, true))⟩,
 ⟨(some 16), .pick (.t 10) (.t 15) (.c (.bool false)), none⟩,
 ⟨(some 17), .mv (.t 16), none⟩,
 ⟨(some 18), .fld 4 (.t 2), (some (17, true))⟩,
 ⟨(some 19), .ld none (.t 18), (some (17, true))⟩,
 ⟨(some 20), .fld 4 (.t 3), (some (17, true))⟩,
 ⟨(some 21), .ld none (.t 20), (some (17, true))⟩,
 ⟨(some 22), .call 52 [(.t 19), (.t 21)], (some (17, true))⟩,
 ⟨(some 23), .pick (.t 17) (.t 22) (.c (.bool false)), none⟩,
 ⟨(some 4), .mv (.t 23), none⟩])
 (.ret)

def c17 : ACode :=
 .seq (.region [
 ⟨(some 2), .box (.t 0), none⟩,
 ⟨(some 3), .box (.t 1), none⟩,
 ⟨(some 4), .mv (.c (.bool false)), none⟩])
 k17_0
theorem ok17 : fnOk Try.prog 17 c17 24 [.t 4] = true := by kernel_rfl

def k22_0 : ACode :=
 .seq (.drawn [
 (0, ⟨(some 3), .fld 0 (.t 1), none⟩),
 (1, ⟨(some 4), .ld (some 3) (.t 3), none⟩),
 (2, ⟨(some 5), .fld 3 (.t 1), none⟩),
 (3, ⟨(some 6), .ld none (.t 5), none⟩),
 (5, ⟨(some 8), .fld 4 (.t 1), none⟩),
 (6, ⟨(some 9), .ld none (.t 8), none⟩),
 (4, ⟨(some 7), .call 55 [(.t 6)], none⟩),
 (7, ⟨(some 10), .call 56 [(.t 9)], none⟩),
 (8, ⟨(some 11), .build [.int .i64 0, .int .i64 0, .int .i64 0, .lit (.slice none 0 0), .lit (.slice none 0 0)] [(0, 3, (.t 4)), (3, 1, (.t 7)), (4, 1, (.t 10))], none⟩),
 (9, ⟨none, .st 5 (.t 2) (.t 11), none⟩)]
 [[], [0], [], [2], [3], [], [5], [6, 4], [1, 4, 7], [8, 7, 0, 1, 2, 3, 4, 5, 6, 7, 8]] 0)
 (.ret)

def c22 : ACode :=
 .seq (.region [
 ⟨(some 1), .box (.t 0), none⟩,
 ⟨(some 2), .new [.int .i64 0, .int .i64 0, .int .i64 0, .lit (.slice none 0 0), .lit (.slice none 0 0)], none⟩])
 k22_0
theorem ok22 : fnOk Try.prog 22 c22 12 [.c 2 (some 5)] = true := by kernel_rfl

def k26_0 : ACode :=
 .seq (.region [
 ⟨(some 11), .mv (.t 1), none⟩,
 ⟨(some 4), .mv (.t 11), none⟩,
 ⟨(some 5), .mv (.c (.bool true)), none⟩])
 (.ret)

def k26_1 : ACode :=
 .seq (.region [
 ⟨(some 9), .mv (.t 1), none⟩,
 ⟨(some 10), .call 59 [(.t 9), (.c (.int .i64 1)), (.c (.int .i64 4096))], none⟩])
 (.cond (.t 10)
 k26_0
 (.skip))

def k26_2 : ACode :=
 .seq (.region [
 ⟨(some 16), .mv (.t 1), none⟩,
 ⟨(some 17), .bin .shl (.c (.int .i64 1)) (.t 16), none⟩,
 ⟨(some 4), .mv (.t 17), none⟩,
 ⟨(some 5), .mv (.c (.bool true)), none⟩])
 (.ret)

def k26_3 : ACode :=
 .seq (.region [
 ⟨(some 14), .mv (.t 1), none⟩,
 ⟨(some 15), .call 59 [(.t 14), (.c (.int .i64 1)), (.c (.int .i64 4))], none⟩])
 (.cond (.t 15)
 k26_2
 (.skip))

def k26_4 : ACode :=
 .cond (.t 18)
 (.skip)
 (.region [
 ⟨(some 20), .bin .eql (.t 6) (.c (.int .i64 4)), none⟩,
 ⟨(some 18), .mv (.t 20), none⟩])

def k26_5 : ACode :=
 .cond (.t 21)
 (.seq (.region [
 ⟨(some 4), .mv (.c (.int .i64 2)), none⟩,
 ⟨(some 5), .mv (.c (.bool true)), none⟩])
 (.ret))
 (.skip)

def k26_6 : ACode :=
 .cond (.t 18)
 (.seq (.region [
 ⟨(some 4), .mv (.c (.int .i64 1)), none⟩,
 ⟨(some 5), .mv (.c (.bool true)), none⟩])
 (.ret))
 (.seq (.region [
 ⟨(some 22), .bin .eql (.t 6) (.c (.int .i64 5)), none⟩,
 ⟨(some 21), .mv (.t 22), none⟩])
 k26_5)

def k26_7 : ACode :=
 .seq (.seq (.region [
 ⟨(some 19), .bin .eql (.t 6) (.c (.int .i64 3)), none⟩,
 ⟨(some 18), .mv (.t 19), none⟩])
 k26_4)
 k26_6

def k26_8 : ACode :=
 .seq (.region [
 ⟨(some 13), .bin .eql (.t 6) (.c (.int .i64 2)), none⟩,
 ⟨(some 12), .mv (.t 13), none⟩])
 (.cond (.t 12)
 k26_3
 k26_7)

def k26_9 : ACode :=
 .block 0 (
 .seq (.region [
 ⟨(some 8), .bin .eql (.t 6) (.c (.int .i64 1)), none⟩,
 ⟨(some 7), .mv (.t 8), none⟩])
 (.cond (.t 7)
 k26_1
 k26_8))

def k26_10 : ACode :=
 .seq (.seq (.region [
 ⟨(some 6), .mv (.t 0), none⟩])
 k26_9)
 (.seq (.region [
 ⟨(some 4), .mv (.c (.int .i64 0)), none⟩,
 ⟨(some 5), .mv (.c (.bool false)), none⟩])
 (.ret))

def c26 : ACode :=
 .seq (.region [
 ⟨(some 4), .mv (.c (.int .i64 0)), none⟩,
 ⟨(some 5), .mv (.c (.bool false)), none⟩])
 k26_10
theorem ok26 : fnOk Try.prog 26 c26 23 [.t 4, .t 5] = true := by kernel_rfl

def k27_0 : ACode :=
 .cond (.t 11)
 (.seq (.region [
 ⟨(some 2), .mv (.c (.bool false)), none⟩])
 (.ret))
 (.skip)

def k27_1 : ACode :=
 .cond (.t 30)
 (.seq (.region [
 ⟨(some 2), .mv (.c (.bool false)), none⟩])
 (.ret))
 (.skip)

def k27_2 : ACode :=
 .seq (.region [
 ⟨(some 19), .mv (.t 4), none⟩,
 ⟨(some 20), .bin .neq (.t 19) (.c (.int .i64 (-2))), none⟩,
 ⟨(some 21), .mv (.t 20), none⟩,
 ⟨(some 22), .mv (.t 4), (some (21, true))⟩,
 ⟨(some 23), .bin .neq (.t 22) (.c (.int .i64 (-1))), (some (21, true))⟩,
 ⟨(some 24), .pick (.t 21) (.t 23) (.c (.bool false)), none⟩,
 ⟨(some 25), .mv (.t 24), none⟩,
 ⟨(some 26), .ld (some 1) (.t 1), (some (25, true))⟩,
 ⟨(some 27), .mv (.t 4), (some (25, true))⟩,
 ⟨(some 28), .call 60 [(.t 26), (.t 27)], (some (25, true))⟩,
 ⟨(some 29), .un .not (.t 28), (some (25, true))⟩,
 ⟨(some 30), .pick (.t 25) (.t 29) (.c (.bool false)), none⟩])
 k27_1

def k27_3 : ACode :=
 .seq (.block 1 (
 .seq (.region [
 ⟨(some 17), .ixs 1 (.t 13) (.t 15), none⟩,
 ⟨(some 18), .ld none (.t 17), none⟩,
 ⟨(some 4), .mv (.t 18), none⟩])
 k27_2))
 (.region [
 ⟨(some 31), .bin .add (.t 15) (.c (.int .i64 1)), none⟩,
 ⟨(some 15), .mv (.t 31), none⟩])

def b27_4 : ACode :=
 .seq (.region [
 ⟨(some 16), .bin .lss (.t 15) (.t 14), none⟩])
 (.seq (.cond (.t 16)
 (.skip)
 (.exit 0))
 k27_3)

def k27_5 : ACode :=
 .cond (.t 51)
 (.seq (.region [
 ⟨(some 2), .mv (.c (.bool false)), none⟩])
 (.ret))
 (.skip)

def k27_6 : ACode :=
 .region [
 ⟨(some 42), .fld 0 (.t 1), none⟩,
 ⟨(some 43), .ld none (.t 42), none⟩,
 ⟨(some 44), .mv (.t 7), none⟩,
 ⟨(some 45), .ixs 1 (.t 43) (.t 44), none⟩,
 ⟨(some 46), .ld none (.t 45), none⟩,
 ⟨(some 7), .mv (.t 46), none⟩]

def k27_7 : ACode :=
 .seq (.block 5 (
 .seq (.seq (.region [
 ⟨(some 47), .mv (.t 6), none⟩,
 ⟨(some 48), .fld 0 (.t 1), none⟩,
 ⟨(some 49), .ld none (.t 48), none⟩,
 ⟨(some 50), .len false (.t 49), none⟩,
 ⟨(some 51), .bin .gtr (.t 47) (.t 50), none⟩])
 k27_5)
 (.region [
 ⟨(some 52), .mv (.t 6), none⟩,
 ⟨(some 53), .bin .add (.t 52) (.c (.int .i64 1)), none⟩,
 ⟨(some 6), .mv (.t 53), none⟩])))
 k27_6

def b27_8 : ACode :=
 .seq (.seq (.region [
 ⟨(some 39), .ld (some 1) (.t 1), none⟩,
 ⟨(some 40), .mv (.t 7), none⟩,
 ⟨(some 41), .call 60 [(.t 39), (.t 40)], none⟩])
 (.cond (.t 41)
 (.skip)
 (.exit 4)))
 k27_7

def k27_9 : ACode :=
 .seq (.region [
 ⟨(some 38), .mv (.t 5), none⟩,
 ⟨(some 7), .mv (.t 38), none⟩])
 (.block 4 (
 .loop b27_8))

def k27_10 : ACode :=
 .seq (.block 3 (
 .seq (.region [
 ⟨(some 37), .mv (.t 35), none⟩,
 ⟨(some 5), .mv (.t 37), none⟩])
 (.seq (.region [
 ⟨(some 6), .mv (.c (.int .i64 0)), none⟩])
 k27_9)))
 (.region [
 ⟨(some 54), .bin .add (.t 35) (.c (.int .i64 1)), none⟩,
 ⟨(some 35), .mv (.t 54), none⟩])

def b27_11 : ACode :=
 .seq (.region [
 ⟨(some 36), .bin .lss (.t 35) (.t 34), none⟩])
 (.seq (.cond (.t 36)
 (.skip)
 (.exit 2))
 k27_10)

def k27_12 : ACode :=
 .seq (.seq (.region [
 ⟨(some 32), .fld 0 (.t 1), none⟩,
 ⟨(some 33), .ld none (.t 32), none⟩,
 ⟨(some 34), .len false (.t 33), none⟩,
 ⟨(some 35), .mv (.c (.int .i64 0)), none⟩])
 (.block 2 (
 .loop b27_11)))
 (.seq (.region [
 ⟨(some 2), .mv (.c (.bool true)), none⟩])
 (.ret))

def k27_13 : ACode :=
 .seq (.seq (.region [
 ⟨(some 12), .fld 0 (.t 1), none⟩,
 ⟨(some 13), .ld none (.t 12), none⟩,
 ⟨(some 14), .len false (.t 13), none⟩,
 ⟨(some 15), .mv (.c (.int .i64 0)), none⟩])
 (.block 0 (
 .loop b27_4)))
 k27_12

def k27_14 : ACode :=
 .seq (.seq (.region [
 ⟨(some 8), .fld 0 (.t 1), none⟩,
 ⟨(some 9), .ld none (.t 8), none⟩,
 ⟨(some 10), .len false (.t 9), none⟩,
 ⟨(some 11), .bin .gtr (.t 10) (.c (.int .i64 96)), none⟩])
 k27_0)
 k27_13

def c27 : ACode :=
 .seq (.region [
 ⟨(some 1), .box (.t 0), none⟩,
 ⟨(some 2), .mv (.c (.bool false)), none⟩])
 k27_14
theorem ok27 : fnOk Try.prog 27 c27 55 [.t 2] = true := by kernel_rfl

def k28_0 : ACode :=
 .cond (.t 15)
 (.region [
 ⟨(some 16), .fld 4 (.t 5), none⟩,
 ⟨none, .st 1 (.t 16) (.c (.int .i64 (-2))), none⟩])
 (.skip)

def k28_1 : ACode :=
 .region [
 ⟨(some 17), .fld 0 (.t 3), none⟩,
 ⟨(some 18), .ld none (.t 17), none⟩,
 ⟨(some 19), .fld 4 (.t 5), none⟩,
 ⟨(some 20), .ld none (.t 19), none⟩,
 ⟨(some 21), .bsl 1 1 [.int .i64 0] [(0, (.t 20))], none⟩,
 ⟨(some 22), .app 1 8 (.t 18) (.t 21), none⟩,
 ⟨(some 23), .fld 0 (.t 3), none⟩,
 ⟨none, .st 1 (.t 23) (.t 22), none⟩]

def k28_2 : ACode :=
 .seq (.seq (.region [
 ⟨(some 13), .fld 0 (.t 5), none⟩,
 ⟨(some 14), .ld (some 4) (.t 13), none⟩,
 ⟨(some 15), .call 37 [(.t 14)], none⟩])
 k28_0)
 k28_1

def k28_3 : ACode :=
 .seq (.block 1 (
 .seq (.region [
 ⟨(some 11), .ixs 5 (.t 7) (.t 9), none⟩,
 ⟨(some 12), .ld (some 5) (.t 11), none⟩,
 ⟨(some 5), .new [.int .i64 0, .int .i64 0, .int .i64 0, .int .i64 0, .int .i64 0], none⟩,
 ⟨none, .st 5 (.t 5) (.t 12), none⟩])
 k28_2))
 (.region [
 ⟨(some 24), .bin .add (.t 9) (.c (.int .i64 1)), none⟩,
 ⟨(some 9), .mv (.t 24), none⟩])

def b28_4 : ACode :=
 .seq (.region [
 ⟨(some 10), .bin .lss (.t 9) (.t 8), none⟩])
 (.seq (.cond (.t 10)
 (.skip)
 (.exit 0))
 k28_3)

def k28_5 : ACode :=
 .seq (.seq (.region [
 ⟨(some 6), .fld 3 (.t 1), none⟩,
 ⟨(some 7), .ld none (.t 6), none⟩,
 ⟨(some 8), .len false (.t 7), none⟩,
 ⟨(some 9), .mv (.c (.int .i64 0)), none⟩])
 (.block 0 (
 .loop b28_4)))
 (.seq (.region [
 ⟨(some 25), .ld (some 1) (.t 3), none⟩,
 ⟨none, .st 1 (.t 2) (.t 25), none⟩])
 (.ret))

def c28 : ACode :=
 .seq (.region [
 ⟨(some 1), .box (.t 0), none⟩,
 ⟨(some 2), .new [.lit (.slice none 0 0)], none⟩])
 (.seq (.region [
 ⟨(some 3), .new [.lit (.slice none 0 0)], none⟩])
 k28_5)
theorem ok28 : fnOk Try.prog 28 c28 26 [.c 2 (some 1)] = true := by kernel_rfl

def k29_0 : ACode :=
 .cond (.t 5)
 (.seq (.region [
 ⟨(some 2), .mv (.c (.int .i64 (-1))), none⟩])
 (.ret))
 (.skip)

def k29_1 : ACode :=
 .seq (.region [
 ⟨(some 6), .fld 4 (.t 1), none⟩,
 ⟨(some 7), .ld none (.t 6), none⟩,
 ⟨(some 8), .call 61 [(.t 7), (.c (.func 62 []))], none⟩,
 ⟨(some 2), .mv (.t 8), none⟩])
 (.ret)

def k29_2 : ACode :=
 .seq (.seq (.region [
 ⟨(some 3), .ld (some 5) (.t 1), none⟩,
 ⟨(some 4), .call 15 [(.t 3)], none⟩,
 ⟨(some 5), .un .not (.t 4), none⟩])
 k29_0)
 k29_1

def c29 : ACode :=
 .seq (.region [
 ⟨(some 1), .box (.t 0), none⟩,
 ⟨(some 2), .mv (.c (.int .i64 0)), none⟩])
 k29_2
theorem ok29 : fnOk Try.prog 29 c29 9 [.t 2] = true := by kernel_rfl

def k37_0 : ACode :=
 .seq (.region [
 ⟨(some 3), .ld (some 4) (.t 1), none⟩,
 ⟨(some 4), .build [.int .i64 0, .int .i64 0, .int .i64 0, .int .i64 0] [], none⟩,
 ⟨(some 5), .eqs false [0, 0, 0, 0] (.t 3) (.t 4), none⟩,
 ⟨(some 2), .mv (.t 5), none⟩])
 (.ret)

def c37 : ACode :=
 .seq (.region [
 ⟨(some 1), .box (.t 0), none⟩,
 ⟨(some 2), .mv (.c (.bool false)), none⟩])
 k37_0
theorem ok37 : fnOk Try.prog 37 c37 6 [.t 2] = true := by kernel_rfl

def k38_0 : ACode :=
 .cond (.t 6)
 (.seq (.region [
 ⟨(some 4), .mv (.c (.bool true)), none⟩])
 (.ret))
 (.skip)

def k38_1 : ACode :=
 .seq (.region [
 ⟨(some 7), .fld 0 (.t 2), none⟩,
 ⟨(some 8), .ld none (.t 7), none⟩,
 ⟨(some 9), .fld 0 (.t 3), none⟩,
 ⟨(some 10), .ld none (.t 9), none⟩,
 ⟨(some 11), .bin .eql (.t 8) (.t 10), none⟩,
 ⟨(some 12), .mv (.t 11), none⟩,
 ⟨(some 13), .fld 1 (.t 2), (some (12, true))⟩,
 ⟨(some 14), .ld none (.t 13), (some (12, true))⟩,
 ⟨(some 15), .fld 1 (.t 3), (some (12, true))⟩,
 ⟨(some 16), .ld none (.t 15), (some (12, true))⟩,
 ⟨(some 17), .bin .eql (.t 14) (.t 16), (some (12, true))⟩,
 ⟨(some 18), .pick (.t 12) (.t 17) (.c (.bool false)), none⟩,
 ⟨(some 19), .mv (.t 18), none⟩,
 ⟨(some 20), .fld 2 (.t 2), (some (19, true))⟩,
 ⟨(some 21), .ld none (.t 20), (some (19, true))⟩,
 ⟨(some 22), .fld 2 (.t 3), (some (19, true))⟩,
 ⟨(some 23), .ld none (.t 22), (some (19, true))⟩,
 ⟨(some 24), .call 48 [(.t 21), (.t 23)], (some (19, true))⟩,
 ⟨(some 25), .pick (.t 19) (.t 24) (.c (.bool false)), none⟩,
 ⟨(some 26), .mv (.t 25), none⟩,
 ⟨(some 27), .fld 3 (.t 3), (some (26, true))⟩,
 ⟨(some 28), .ld none (.t 27), (some (26, true))⟩,
 ⟨(some 29), .bin .eql (.t 28) (.c (.int .i64 0)), (some (26, true))⟩,
 ⟨(some 30), .mv (.t 29), (some (26, true))⟩,
 ⟨(some 31), .fld 3 (.t 3), (some (30, false))⟩,
 ⟨(some 32), .ld none (.t 31), (some (30, false))⟩,
 ⟨(some 33), .fld 3 (.t 2), (some (30, false))⟩,
 ⟨(some 34), .ld none (.t 33), (some (30, false))⟩,
 ⟨(some 35), .bin .eql (.t 32) (.t 34), (some (30, false))⟩,
 ⟨(some 36), .pick (.t 30) (.c (.bool true)) (.t 35), (some (26, true))⟩,
 ⟨(some 37), .pick (.t 26) (.t 36) (.c (.bool false)), none⟩,
 ⟨(some 4), .mv (.t 37), none⟩])
 (.ret)

def k38_2 : ACode :=
 .seq (.seq (.region [
 ⟨(some 5), .ld (some 4) (.t 2), none⟩,
 ⟨(some 6), .call 37 [(.t 5)], none⟩])
 k38_0)
 k38_1

def c38 : ACode :=
 .seq (.region [
 ⟨(some 2), .box (.t 0), none⟩,
 ⟨(some 3), .box (.t 1), none⟩,
 ⟨(some 4), .mv (.c (.bool false)), none⟩])
 k38_2
theorem ok38 : fnOk Try.prog 38 c38 38 [.t 4] = true := by kernel_rfl

def k40_0 : ACode :=
 .seq (.region [
 ⟨(some 3), .fld 0 (.t 1), none⟩,
 ⟨(some 4), .ld none (.t 3), none⟩,
 ⟨(some 5), .call 67 [(.t 4), (.c (.int .i64 1)), (.c (.int .i64 4))], none⟩,
 ⟨(some 6), .mv (.t 5), none⟩,
 ⟨(some 7), .fld 1 (.t 1), (some (6, true))⟩,
 ⟨(some 8), .ld none (.t 7), (some (6, true))⟩,
 ⟨(some 9), .fld 0 (.t 1), (some (6, true))⟩,
 ⟨(some 10), .ld none (.t 9), (some (6, true))⟩,
 ⟨(some 11), .bin .mul (.c (.int .i64 8)) (.t 10), (some (6, true))⟩,
 ⟨(some 12), .call 67 [(.t 8), (.t 11), (.c (.int .i64 96))], (some (6, true))⟩,
 ⟨(some 13), .pick (.t 6) (.t 12) (.c (.bool false)), none⟩,
 ⟨(some 14), .mv (.t 13), none⟩,
 ⟨(some 15), .fld 1 (.t 1), (some (14, true))⟩,
 ⟨(some 16), .ld none (.t 15), (some (14, true))⟩,
 ⟨(some 17), .bin .rem (.t 16) (.c (.int .i64 8)), (some (14, true))⟩,
 ⟨(some 18), .bin .eql (.t 17) (.c (.int .i64 0)), (some (14, true))⟩,
 ⟨(some 19), .pick (.t 14) (.t 18) (.c (.bool false)), none⟩,
 ⟨(some 20), .mv (.t 19), none⟩,
 ⟨(some 21), .fld 2 (.t 1), (some (20, true))⟩,
 ⟨(some 22), .ld none (.t 21), (some (20, true))⟩,
 ⟨(some 23), .fld 0 (.t 1), (some (20, true))⟩,
 ⟨(some 24), .ld none (.t 23), (some (20, true))⟩,
 ⟨(some 25), .bin .add (.t 24) (.c (.int .i64 2)), (some (20, true))⟩,
 ⟨(some 26), .call 67 [(.t 22), (.t 25), (.c (.int .i64 48))], (some (20, true))⟩,
 ⟨(some 27), .pick (.t 20) (.t 26) (.c (.bool false)), none⟩,
 ⟨(some 2), .mv (.t 27), none⟩])
 (.ret)

def c40 : ACode :=
 .seq (.region [
 ⟨(some 1), .box (.t 0), none⟩,
 ⟨(some 2), .mv (.c (.bool false)), none⟩])
 k40_0
theorem ok40 : fnOk Try.prog 40 c40 28 [.t 2] = true := by kernel_rfl

def k41_0 : ACode :=
 .region [
 ⟨(some 27), .ld (some 4) (.t 5), none⟩,
 ⟨(some 28), .call 37 [(.t 27)], none⟩,
 ⟨(some 29), .un .not (.t 28), none⟩,
 ⟨(some 30), .mv (.t 29), none⟩,
 ⟨(some 31), .fld 4 (.t 4), (some (30, true))⟩,
 ⟨(some 32), .ld none (.t 31), (some (30, true))⟩,
 ⟨(some 33), .bin .lss (.t 32) (.c (.int .i64 (-1))), (some (30, true))⟩,
 ⟨(some 34), .pick (.t 30) (.t 33) (.c (.bool false)), none⟩,
 ⟨(some 19), .mv (.t 34), none⟩]

def k41_1 : ACode :=
 .cond (.t 35)
 (.seq (.region [
 ⟨(some 2), .mv (.c (.bool false)), none⟩])
 (.ret))
 (.skip)

def k41_2 : ACode :=
 .seq (.drawn [
 (0, ⟨(some 36), .ld (some 4) (.t 5), none⟩),
 (1, ⟨(some 37), .call 37 [(.t 36)], none⟩),
 (2, ⟨(some 38), .un .not (.t 37), none⟩),
 (3, ⟨(some 39), .mv (.t 38), none⟩),
 (4, ⟨(some 40), .ld (some 5) (.t 1), (some (39, true))⟩),
 (5, ⟨(some 41), .fld 1 (.t 5), (some (39, true))⟩),
 (6, ⟨(some 42), .ld none (.t 41), (some (39, true))⟩),
 (7, ⟨(some 43), .call 68 [(.t 40), (.t 42)], (some (39, true))⟩),
 (8, ⟨(some 44), .un .not (.t 43), (some (39, true))⟩),
 (9, ⟨(some 45), .mv (.t 44), (some (39, true))⟩),
 (10, ⟨(some 46), .fld 4 (.t 1), (some (45, false))⟩),
 (11, ⟨(some 47), .ld none (.t 46), (some (45, false))⟩),
 (12, ⟨(some 48), .fld 1 (.t 5), (some (45, false))⟩),
 (13, ⟨(some 49), .ld none (.t 48), (some (45, false))⟩),
 (14, ⟨(some 50), .ixs 13 (.t 47) (.t 49), (some (45, false))⟩),
 (15, ⟨(some 51), .fld 0 (.t 50), (some (45, false))⟩),
 (16, ⟨(some 52), .ld none (.t 51), (some (45, false))⟩),
 (17, ⟨(some 53), .fld 0 (.t 5), (some (45, false))⟩),
 (18, ⟨(some 54), .ld none (.t 53), (some (45, false))⟩),
 (19, ⟨(some 55), .bin .neq (.t 52) (.t 54), (some (45, false))⟩),
 (20, ⟨(some 56), .pick (.t 45) (.c (.bool true)) (.t 55), (some (39, true))⟩),
 (21, ⟨(some 57), .pick (.t 39) (.t 56) (.c (.bool false)), none⟩),
 (22, ⟨(some 35), .mv (.t 57), none⟩)]
 [[], [0], [1], [2, 1], [3], [3], [5, 3], [4, 6, 3, 3], [7, 3], [8, 7, 3], [9], [10, 9], [9], [12, 9], [11, 13, 9], [14, 9], [15, 9], [9], [17, 9], [16, 18, 9], [9, 19, 3], [3, 20], [21, 9]] 0)
 k41_1

def k41_3 : ACode :=
 .cond (.t 19)
 (.seq (.region [
 ⟨(some 2), .mv (.c (.bool false)), none⟩])
 (.ret))
 k41_2

def k41_4 : ACode :=
 .seq (.seq (.region [
 ⟨(some 20), .ld (some 4) (.t 5), none⟩,
 ⟨(some 21), .call 37 [(.t 20)], none⟩,
 ⟨(some 22), .mv (.t 21), none⟩,
 ⟨(some 23), .fld 4 (.t 4), (some (22, true))⟩,
 ⟨(some 24), .ld none (.t 23), (some (22, true))⟩,
 ⟨(some 25), .bin .neq (.t 24) (.c (.int .i64 (-1))), (some (22, true))⟩,
 ⟨(some 26), .pick (.t 22) (.t 25) (.c (.bool false)), none⟩,
 ⟨(some 19), .mv (.t 26), none⟩])
 (.cond (.t 19)
 (.skip)
 k41_0))
 k41_3

def k41_5 : ACode :=
 .cond (.t 15)
 (.seq (.region [
 ⟨(some 2), .mv (.c (.bool false)), none⟩])
 (.ret))
 k41_4

def k41_6 : ACode :=
 .block 2 (
 .seq (.region [
 ⟨(some 16), .ld (some 4) (.t 5), none⟩,
 ⟨(some 17), .call 63 [(.t 16)], none⟩,
 ⟨(some 18), .un .not (.t 17), none⟩,
 ⟨(some 15), .mv (.t 18), none⟩])
 k41_5)

def k41_7 : ACode :=
 .seq (.region [
 ⟨(some 13), .fld 0 (.t 4), none⟩,
 ⟨(some 14), .ld (some 4) (.t 13), none⟩,
 ⟨(some 5), .new [.int .i64 0, .int .i64 0, .int .i64 0, .int .i64 0], none⟩,
 ⟨none, .st 4 (.t 5) (.t 14), none⟩])
 k41_6

def k41_8 : ACode :=
 .seq (.block 1 (
 .seq (.region [
 ⟨(some 11), .ixs 5 (.t 7) (.t 9), none⟩,
 ⟨(some 12), .ld (some 5) (.t 11), none⟩,
 ⟨(some 4), .new [.int .i64 0, .int .i64 0, .int .i64 0, .int .i64 0, .int .i64 0], none⟩,
 ⟨none, .st 5 (.t 4) (.t 12), none⟩])
 k41_7))
 (.region [
 ⟨(some 58), .bin .add (.t 9) (.c (.int .i64 1)), none⟩,
 ⟨(some 9), .mv (.t 58), none⟩])

def b41_9 : ACode :=
 .seq (.region [
 ⟨(some 10), .bin .lss (.t 9) (.t 8), none⟩])
 (.seq (.cond (.t 10)
 (.skip)
 (.exit 0))
 k41_8)

def k41_10 : ACode :=
 .seq (.seq (.region [
 ⟨(some 6), .fld 3 (.t 1), none⟩,
 ⟨(some 7), .ld none (.t 6), none⟩,
 ⟨(some 8), .len false (.t 7), none⟩,
 ⟨(some 9), .mv (.c (.int .i64 0)), none⟩])
 (.block 0 (
 .loop b41_9)))
 (.seq (.region [
 ⟨(some 2), .mv (.c (.bool true)), none⟩])
 (.ret))

def c41 : ACode :=
 .seq (.region [
 ⟨(some 1), .box (.t 0), none⟩,
 ⟨(some 2), .mv (.c (.bool false)), none⟩])
 k41_10
theorem ok41 : fnOk Try.prog 41 c41 59 [.t 2] = true := by kernel_rfl

def k42_0 : ACode :=
 .cond (.t 16)
 (.seq (.region [
 ⟨(some 2), .mv (.c (.bool false)), none⟩])
 (.ret))
 (.skip)

def k42_1 : ACode :=
 .cond (.t 38)
 (.seq (.region [
 ⟨(some 2), .mv (.c (.bool false)), none⟩])
 (.ret))
 (.skip)

def k42_2 : ACode :=
 .cond (.t 59)
 (.seq (.region [
 ⟨(some 2), .mv (.c (.bool false)), none⟩])
 (.ret))
 (.skip)

def k42_3 : ACode :=
 .cond (.t 73)
 (.seq (.region [
 ⟨(some 2), .mv (.c (.bool false)), none⟩])
 (.ret))
 (.skip)

def k42_4 : ACode :=
 .seq (.region [
 ⟨(some 60), .mv (.t 5), none⟩,
 ⟨(some 61), .un .not (.t 60), none⟩,
 ⟨(some 62), .mv (.t 61), none⟩,
 ⟨(some 63), .fld 0 (.t 4), (some (62, true))⟩,
 ⟨(some 64), .ld none (.t 63), (some (62, true))⟩,
 ⟨(some 65), .bin .neq (.t 64) (.c (.int .i64 0)), (some (62, true))⟩,
 ⟨(some 66), .pick (.t 62) (.t 65) (.c (.bool false)), none⟩,
 ⟨(some 67), .mv (.t 66), none⟩,
 ⟨(some 68), .ld (some 5) (.t 1), (some (67, true))⟩,
 ⟨(some 69), .mv (.t 3), (some (67, true))⟩,
 ⟨(some 70), .call 71 [(.t 68), (.t 69)], (some (67, true))⟩,
 ⟨(some 71), .len false (.t 70), (some (67, true))⟩,
 ⟨(some 72), .bin .eql (.t 71) (.c (.int .i64 0)), (some (67, true))⟩,
 ⟨(some 73), .pick (.t 67) (.t 72) (.c (.bool false)), none⟩])
 k42_3

def k42_5 : ACode :=
 .seq (.seq (.drawn [
 (0, ⟨(some 49), .mv (.t 5), none⟩),
 (1, ⟨(some 50), .mv (.t 49), none⟩),
 (2, ⟨(some 51), .ld (some 13) (.t 4), (some (50, true))⟩),
 (3, ⟨(some 52), .fld 0 (.t 1), (some (50, true))⟩),
 (4, ⟨(some 53), .ld (some 3) (.t 52), (some (50, true))⟩),
 (5, ⟨(some 54), .mv (.t 3), (some (50, true))⟩),
 (6, ⟨(some 55), .bin .sub (.t 54) (.c (.int .i64 2)), (some (50, true))⟩),
 (7, ⟨(some 56), .call 70 [(.t 53), (.t 55)], (some (50, true))⟩),
 (8, ⟨(some 57), .build [.int .i64 0, .int .i64 0, .int .i64 0, .int .i64 0, .int .i64 0, .int .i64 0, .int .i64 0, .bool false, .int .u64 0, .int .u64 0, .int .u64 0, .int .u64 0, .int .u64 0] [(0, 1, (.c (.int .i64 2))), (1, 1, (.c (.int .i64 3))), (2, 1, (.t 56))], (some (50, true))⟩),
 (9, ⟨(some 58), .eqs true [0, 0, 0, 0, 0, 0, 0, 1, 0, 0, 0, 0, 0] (.t 51) (.t 57), (some (50, true))⟩),
 (10, ⟨(some 59), .pick (.t 50) (.t 58) (.c (.bool false)), none⟩)]
 [[], [0], [1], [1], [3, 1], [1], [5, 1], [4, 6, 1, 1], [7, 1], [2, 8, 1], [1, 9]] 0)
 k42_2)
 k42_4

def k42_6 : ACode :=
 .seq (.region [
 ⟨(some 39), .mv (.t 3), none⟩,
 ⟨(some 40), .bin .geq (.t 39) (.c (.int .i64 2)), none⟩,
 ⟨(some 41), .mv (.t 40), none⟩,
 ⟨(some 42), .mv (.t 3), (some (41, true))⟩,
 ⟨(some 43), .fld 0 (.t 1), (some (41, true))⟩,
 ⟨(some 44), .fld 0 (.t 43), (some (41, true))⟩,
 ⟨(some 45), .ld none (.t 44), (some (41, true))⟩,
 ⟨(some 46), .bin .add (.c (.int .i64 2)) (.t 45), (some (41, true))⟩,
 ⟨(some 47), .bin .lss (.t 42) (.t 46), (some (41, true))⟩,
 ⟨(some 48), .pick (.t 41) (.t 47) (.c (.bool false)), none⟩,
 ⟨(some 5), .mv (.t 48), none⟩])
 k42_5

def k42_7 : ACode :=
 .seq (.seq (.region [
 ⟨(some 17), .fld 5 (.t 4), none⟩,
 ⟨(some 18), .ld none (.t 17), none⟩,
 ⟨(some 19), .bin .gtr (.t 18) (.c (.int .i64 0)), none⟩,
 ⟨(some 20), .mv (.t 19), none⟩,
 ⟨(some 21), .fld 5 (.t 4), (some (20, true))⟩,
 ⟨(some 22), .ld none (.t 21), (some (20, true))⟩,
 ⟨(some 23), .fld 3 (.t 1), (some (20, true))⟩,
 ⟨(some 24), .ld none (.t 23), (some (20, true))⟩,
 ⟨(some 25), .len false (.t 24), (some (20, true))⟩,
 ⟨(some 26), .bin .gtr (.t 22) (.t 25), (some (20, true))⟩,
 ⟨(some 27), .mv (.t 26), (some (20, true))⟩,
 ⟨(some 28), .fld 3 (.t 1), (some (27, false))⟩,
 ⟨(some 29), .ld none (.t 28), (some (27, false))⟩,
 ⟨(some 30), .fld 5 (.t 4), (some (27, false))⟩,
 ⟨(some 31), .ld none (.t 30), (some (27, false))⟩,
 ⟨(some 32), .bin .sub (.t 31) (.c (.int .i64 1)), (some (27, false))⟩,
 ⟨(some 33), .ixs 5 (.t 29) (.t 32), (some (27, false))⟩,
 ⟨(some 34), .fld 0 (.t 33), (some (27, false))⟩,
 ⟨(some 35), .ld (some 4) (.t 34), (some (27, false))⟩,
 ⟨(some 36), .call 37 [(.t 35)], (some (27, false))⟩,
 ⟨(some 37), .pick (.t 27) (.c (.bool true)) (.t 36), (some (20, true))⟩,
 ⟨(some 38), .pick (.t 20) (.t 37) (.c (.bool false)), none⟩])
 k42_1)
 k42_6

def k42_8 : ACode :=
 .seq (.seq (.region [
 ⟨(some 14), .ld (some 13) (.t 4), none⟩,
 ⟨(some 15), .call 69 [(.t 14)], none⟩,
 ⟨(some 16), .un .not (.t 15), none⟩])
 k42_0)
 k42_7

def k42_9 : ACode :=
 .seq (.block 1 (
 .seq (.region [
 ⟨(some 11), .mv (.t 9), none⟩,
 ⟨(some 12), .ixs 13 (.t 7) (.t 9), none⟩,
 ⟨(some 13), .ld (some 13) (.t 12), none⟩,
 ⟨(some 4), .new [.int .i64 0, .int .i64 0, .int .i64 0, .int .i64 0, .int .i64 0, .int .i64 0, .int .i64 0, .bool false, .int .u64 0, .int .u64 0, .int .u64 0, .int .u64 0, .int .u64 0], none⟩,
 ⟨(some 3), .mv (.t 11), none⟩,
 ⟨none, .st 13 (.t 4) (.t 13), none⟩])
 k42_8))
 (.region [
 ⟨(some 74), .bin .add (.t 9) (.c (.int .i64 1)), none⟩,
 ⟨(some 9), .mv (.t 74), none⟩])

def b42_10 : ACode :=
 .seq (.region [
 ⟨(some 10), .bin .lss (.t 9) (.t 8), none⟩])
 (.seq (.cond (.t 10)
 (.skip)
 (.exit 0))
 k42_9)

def k42_11 : ACode :=
 .seq (.seq (.region [
 ⟨(some 6), .fld 4 (.t 1), none⟩,
 ⟨(some 7), .ld none (.t 6), none⟩,
 ⟨(some 8), .len false (.t 7), none⟩,
 ⟨(some 9), .mv (.c (.int .i64 0)), none⟩])
 (.block 0 (
 .loop b42_10)))
 (.seq (.region [
 ⟨(some 2), .mv (.c (.bool true)), none⟩])
 (.ret))

def c42 : ACode :=
 .seq (.region [
 ⟨(some 1), .box (.t 0), none⟩,
 ⟨(some 2), .mv (.c (.bool false)), none⟩])
 k42_11
theorem ok42 : fnOk Try.prog 42 c42 75 [.t 2] = true := by kernel_rfl

def k43_0 : ACode :=
 .cond (.t 43)
 (.seq (.region [
 ⟨(some 2), .mv (.c (.bool false)), none⟩])
 (.ret))
 (.skip)

def k43_1 : ACode :=
 .region [
 ⟨(some 44), .mv (.t 3), none⟩,
 ⟨(some 45), .mv (.t 7), none⟩,
 ⟨(some 46), .ixs 1 (.t 44) (.t 45), none⟩,
 ⟨none, .st 1 (.t 46) (.c (.bool true)), none⟩]

def k43_2 : ACode :=
 .seq (.seq (.region [
 ⟨(some 34), .mv (.t 7), none⟩,
 ⟨(some 35), .mv (.t 3), none⟩,
 ⟨(some 36), .len false (.t 35), none⟩,
 ⟨(some 37), .bin .geq (.t 34) (.t 36), none⟩,
 ⟨(some 38), .mv (.t 37), none⟩,
 ⟨(some 39), .mv (.t 3), (some (38, false))⟩,
 ⟨(some 40), .mv (.t 7), (some (38, false))⟩,
 ⟨(some 41), .ixs 1 (.t 39) (.t 40), (some (38, false))⟩,
 ⟨(some 42), .ld none (.t 41), (some (38, false))⟩,
 ⟨(some 43), .pick (.t 38) (.c (.bool true)) (.t 42), none⟩])
 k43_0)
 k43_1

def k43_3 : ACode :=
 .seq (.region [
 ⟨(some 30), .fld 2 (.t 5), none⟩,
 ⟨(some 31), .ld none (.t 30), none⟩,
 ⟨(some 32), .mv (.t 6), none⟩,
 ⟨(some 33), .bin .add (.t 31) (.t 32), none⟩,
 ⟨(some 7), .mv (.t 33), none⟩])
 k43_2

def k43_4 : ACode :=
 .seq (.block 3 (
 .seq (.region [
 ⟨(some 29), .mv (.t 27), none⟩,
 ⟨(some 6), .mv (.t 29), none⟩])
 k43_3))
 (.region [
 ⟨(some 47), .bin .add (.t 27) (.c (.int .i64 1)), none⟩,
 ⟨(some 27), .mv (.t 47), none⟩])

def b43_5 : ACode :=
 .seq (.region [
 ⟨(some 28), .bin .lss (.t 27) (.t 26), none⟩])
 (.seq (.cond (.t 28)
 (.skip)
 (.exit 2))
 k43_4)

def k43_6 : ACode :=
 .seq (.region [
 ⟨(some 24), .fld 1 (.t 5), none⟩,
 ⟨(some 25), .ld none (.t 24), none⟩,
 ⟨(some 26), .bin .shl (.c (.int .i64 1)) (.t 25), none⟩,
 ⟨(some 27), .mv (.c (.int .i64 0)), none⟩])
 (.block 2 (
 .loop b43_5))

def k43_7 : ACode :=
 .seq (.seq (.region [
 ⟨(some 21), .fld 0 (.t 5), none⟩,
 ⟨(some 22), .ld none (.t 21), none⟩,
 ⟨(some 23), .bin .neq (.t 22) (.c (.int .i64 2)), none⟩])
 (.cond (.t 23)
 (.exit 1)
 (.skip)))
 k43_6

def k43_8 : ACode :=
 .seq (.block 1 (
 .seq (.region [
 ⟨(some 19), .ixs 13 (.t 15) (.t 17), none⟩,
 ⟨(some 20), .ld (some 13) (.t 19), none⟩,
 ⟨(some 5), .new [.int .i64 0, .int .i64 0, .int .i64 0, .int .i64 0, .int .i64 0, .int .i64 0, .int .i64 0, .bool false, .int .u64 0, .int .u64 0, .int .u64 0, .int .u64 0, .int .u64 0], none⟩,
 ⟨none, .st 13 (.t 5) (.t 20), none⟩])
 k43_7))
 (.region [
 ⟨(some 48), .bin .add (.t 17) (.c (.int .i64 1)), none⟩,
 ⟨(some 17), .mv (.t 48), none⟩])

def b43_9 : ACode :=
 .seq (.region [
 ⟨(some 18), .bin .lss (.t 17) (.t 16), none⟩])
 (.seq (.cond (.t 18)
 (.skip)
 (.exit 0))
 k43_8)

def k43_10 : ACode :=
 .cond (.t 67)
 (.seq (.region [
 ⟨(some 2), .mv (.c (.bool false)), none⟩])
 (.ret))
 (.skip)

def k43_11 : ACode :=
 .seq (.region [
 ⟨(some 57), .mv (.t 3), none⟩,
 ⟨(some 58), .mv (.t 8), none⟩,
 ⟨(some 59), .ixs 1 (.t 57) (.t 58), none⟩,
 ⟨(some 60), .ld none (.t 59), none⟩,
 ⟨(some 61), .un .not (.t 60), none⟩,
 ⟨(some 62), .mv (.t 61), none⟩,
 ⟨(some 63), .fld 0 (.t 9), (some (62, true))⟩,
 ⟨(some 64), .ld (some 4) (.t 63), (some (62, true))⟩,
 ⟨(some 65), .call 37 [(.t 64)], (some (62, true))⟩,
 ⟨(some 66), .un .not (.t 65), (some (62, true))⟩,
 ⟨(some 67), .pick (.t 62) (.t 66) (.c (.bool false)), none⟩])
 k43_10

def k43_12 : ACode :=
 .seq (.block 5 (
 .seq (.region [
 ⟨(some 54), .mv (.t 52), none⟩,
 ⟨(some 55), .ixs 5 (.t 50) (.t 52), none⟩,
 ⟨(some 56), .ld (some 5) (.t 55), none⟩,
 ⟨(some 9), .new [.int .i64 0, .int .i64 0, .int .i64 0, .int .i64 0, .int .i64 0], none⟩,
 ⟨(some 8), .mv (.t 54), none⟩,
 ⟨none, .st 5 (.t 9) (.t 56), none⟩])
 k43_11))
 (.region [
 ⟨(some 68), .bin .add (.t 52) (.c (.int .i64 1)), none⟩,
 ⟨(some 52), .mv (.t 68), none⟩])

def b43_13 : ACode :=
 .seq (.region [
 ⟨(some 53), .bin .lss (.t 52) (.t 51), none⟩])
 (.seq (.cond (.t 53)
 (.skip)
 (.exit 4))
 k43_12)

def k43_14 : ACode :=
 .seq (.seq (.region [
 ⟨(some 49), .fld 3 (.t 1), none⟩,
 ⟨(some 50), .ld none (.t 49), none⟩,
 ⟨(some 51), .len false (.t 50), none⟩,
 ⟨(some 52), .mv (.c (.int .i64 0)), none⟩])
 (.block 4 (
 .loop b43_13)))
 (.seq (.region [
 ⟨(some 2), .mv (.c (.bool true)), none⟩])
 (.ret))

def k43_15 : ACode :=
 .seq (.seq (.region [
 ⟨(some 14), .fld 4 (.t 1), none⟩,
 ⟨(some 15), .ld none (.t 14), none⟩,
 ⟨(some 16), .len false (.t 15), none⟩,
 ⟨(some 17), .mv (.c (.int .i64 0)), none⟩])
 (.block 0 (
 .loop b43_9)))
 k43_14

def k43_16 : ACode :=
 .seq (.region [
 ⟨(some 10), .fld 3 (.t 1), none⟩,
 ⟨(some 11), .ld none (.t 10), none⟩,
 ⟨(some 12), .len false (.t 11), none⟩,
 ⟨(some 13), .mks 1 1 [.bool false] (.t 12) (.t 12), none⟩,
 ⟨(some 3), .mv (.t 13), none⟩])
 k43_15

def c43 : ACode :=
 .seq (.region [
 ⟨(some 1), .box (.t 0), none⟩,
 ⟨(some 2), .mv (.c (.bool false)), none⟩])
 k43_16
theorem ok43 : fnOk Try.prog 43 c43 69 [.t 2] = true := by kernel_rfl

def k44_0 : ACode :=
 .cond (.t 24)
 (.seq (.region [
 ⟨(some 2), .mv (.c (.bool true)), none⟩])
 (.ret))
 (.skip)

def k44_1 : ACode :=
 .seq (.region [
 ⟨(some 13), .fld 0 (.t 4), none⟩,
 ⟨(some 14), .fld 0 (.t 13), none⟩,
 ⟨(some 15), .ld none (.t 14), none⟩,
 ⟨(some 16), .bin .eql (.t 15) (.c (.int .i64 2)), none⟩,
 ⟨(some 17), .mv (.t 16), none⟩,
 ⟨(some 18), .ld (some 5) (.t 1), (some (17, true))⟩,
 ⟨(some 19), .fld 0 (.t 4), (some (17, true))⟩,
 ⟨(some 20), .fld 1 (.t 19), (some (17, true))⟩,
 ⟨(some 21), .ld none (.t 20), (some (17, true))⟩,
 ⟨(some 22), .mv (.t 3), (some (17, true))⟩,
 ⟨(some 23), .call 72 [(.t 18), (.t 21), (.t 22)], (some (17, true))⟩,
 ⟨(some 24), .pick (.t 17) (.t 23) (.c (.bool false)), none⟩])
 k44_0

def k44_2 : ACode :=
 .seq (.block 1 (
 .seq (.region [
 ⟨(some 10), .mv (.t 8), none⟩,
 ⟨(some 11), .ixs 5 (.t 6) (.t 8), none⟩,
 ⟨(some 12), .ld (some 5) (.t 11), none⟩,
 ⟨(some 4), .new [.int .i64 0, .int .i64 0, .int .i64 0, .int .i64 0, .int .i64 0], none⟩,
 ⟨(some 3), .mv (.t 10), none⟩,
 ⟨none, .st 5 (.t 4) (.t 12), none⟩])
 k44_1))
 (.region [
 ⟨(some 25), .bin .add (.t 8) (.c (.int .i64 1)), none⟩,
 ⟨(some 8), .mv (.t 25), none⟩])

def b44_3 : ACode :=
 .seq (.region [
 ⟨(some 9), .bin .lss (.t 8) (.t 7), none⟩])
 (.seq (.cond (.t 9)
 (.skip)
 (.exit 0))
 k44_2)

def k44_4 : ACode :=
 .seq (.seq (.region [
 ⟨(some 5), .fld 3 (.t 1), none⟩,
 ⟨(some 6), .ld none (.t 5), none⟩,
 ⟨(some 7), .len false (.t 6), none⟩,
 ⟨(some 8), .mv (.c (.int .i64 0)), none⟩])
 (.block 0 (
 .loop b44_3)))
 (.seq (.region [
 ⟨(some 2), .mv (.c (.bool false)), none⟩])
 (.ret))

def c44 : ACode :=
 .seq (.region [
 ⟨(some 1), .box (.t 0), none⟩,
 ⟨(some 2), .mv (.c (.bool false)), none⟩])
 k44_4
theorem ok44 : fnOk Try.prog 44 c44 26 [.t 2] = true := by kernel_rfl

def k45_0 : ACode :=
 .cond (.t 40)
 (.seq (.region [
 ⟨(some 2), .mv (.c (.bool false)), none⟩])
 (.ret))
 (.skip)

def k45_1 : ACode :=
 .seq (.region [
 ⟨(some 23), .fld 0 (.t 4), none⟩,
 ⟨(some 24), .ld (some 4) (.t 23), none⟩,
 ⟨(some 25), .ld (some 4) (.t 5), none⟩,
 ⟨(some 26), .call 38 [(.t 24), (.t 25)], none⟩,
 ⟨(some 27), .un .not (.t 26), none⟩,
 ⟨(some 28), .mv (.t 27), none⟩,
 ⟨(some 29), .fld 0 (.t 5), (some (28, true))⟩,
 ⟨(some 30), .ld none (.t 29), (some (28, true))⟩,
 ⟨(some 31), .bin .neq (.t 30) (.c (.int .i64 1)), (some (28, true))⟩,
 ⟨(some 32), .mv (.t 31), (some (28, true))⟩,
 ⟨(some 33), .fld 0 (.t 4), (some (32, false))⟩,
 ⟨(some 34), .fld 1 (.t 33), (some (32, false))⟩,
 ⟨(some 35), .ld none (.t 34), (some (32, false))⟩,
 ⟨(some 36), .fld 1 (.t 5), (some (32, false))⟩,
 ⟨(some 37), .ld none (.t 36), (some (32, false))⟩,
 ⟨(some 38), .bin .eql (.t 35) (.t 37), (some (32, false))⟩,
 ⟨(some 39), .pick (.t 32) (.c (.bool true)) (.t 38), (some (28, true))⟩,
 ⟨(some 40), .pick (.t 28) (.t 39) (.c (.bool false)), none⟩])
 k45_0

def k45_2 : ACode :=
 .seq (.region [
 ⟨(some 16), .fld 3 (.t 1), none⟩,
 ⟨(some 17), .ld none (.t 16), none⟩,
 ⟨(some 18), .fld 4 (.t 4), none⟩,
 ⟨(some 19), .ld none (.t 18), none⟩,
 ⟨(some 20), .ixs 5 (.t 17) (.t 19), none⟩,
 ⟨(some 21), .fld 0 (.t 20), none⟩,
 ⟨(some 22), .ld (some 4) (.t 21), none⟩,
 ⟨(some 5), .new [.int .i64 0, .int .i64 0, .int .i64 0, .int .i64 0], none⟩,
 ⟨none, .st 4 (.t 5) (.t 22), none⟩])
 k45_1

def k45_3 : ACode :=
 .seq (.seq (.region [
 ⟨(some 13), .fld 4 (.t 4), none⟩,
 ⟨(some 14), .ld none (.t 13), none⟩,
 ⟨(some 15), .bin .lss (.t 14) (.c (.int .i64 0)), none⟩])
 (.cond (.t 15)
 (.exit 1)
 (.skip)))
 k45_2

def k45_4 : ACode :=
 .seq (.block 1 (
 .seq (.region [
 ⟨(some 11), .ixs 5 (.t 7) (.t 9), none⟩,
 ⟨(some 12), .ld (some 5) (.t 11), none⟩,
 ⟨(some 4), .new [.int .i64 0, .int .i64 0, .int .i64 0, .int .i64 0, .int .i64 0], none⟩,
 ⟨none, .st 5 (.t 4) (.t 12), none⟩])
 k45_3))
 (.region [
 ⟨(some 41), .bin .add (.t 9) (.c (.int .i64 1)), none⟩,
 ⟨(some 9), .mv (.t 41), none⟩])

def b45_5 : ACode :=
 .seq (.region [
 ⟨(some 10), .bin .lss (.t 9) (.t 8), none⟩])
 (.seq (.cond (.t 10)
 (.skip)
 (.exit 0))
 k45_4)

def k45_6 : ACode :=
 .seq (.seq (.region [
 ⟨(some 6), .fld 3 (.t 1), none⟩,
 ⟨(some 7), .ld none (.t 6), none⟩,
 ⟨(some 8), .len false (.t 7), none⟩,
 ⟨(some 9), .mv (.c (.int .i64 0)), none⟩])
 (.block 0 (
 .loop b45_5)))
 (.seq (.region [
 ⟨(some 2), .mv (.c (.bool true)), none⟩])
 (.ret))

def c45 : ACode :=
 .seq (.region [
 ⟨(some 1), .box (.t 0), none⟩,
 ⟨(some 2), .mv (.c (.bool false)), none⟩])
 k45_6
theorem ok45 : fnOk Try.prog 45 c45 42 [.t 2] = true := by kernel_rfl

def k46_0 : ACode :=
 .seq (.region [
 ⟨(some 31), .mv (.t 4), none⟩,
 ⟨(some 32), .sbin .neq (.t 31) (.c (.str [])), none⟩,
 ⟨(some 33), .mv (.t 32), none⟩,
 ⟨(some 34), .fld 1 (.t 1), (some (33, true))⟩,
 ⟨(some 35), .ld (some 1) (.t 34), (some (33, true))⟩,
 ⟨(some 36), .call 75 [(.t 35)], (some (33, true))⟩,
 ⟨(some 37), .pick (.t 33) (.t 36) (.c (.bool false)), none⟩,
 ⟨(some 38), .mv (.t 37), none⟩,
 ⟨(some 39), .mv (.t 5), (some (38, true))⟩,
 ⟨(some 40), .pick (.t 38) (.t 39) (.c (.bool false)), none⟩,
 ⟨(some 41), .mv (.t 40), none⟩,
 ⟨(some 42), .ld (some 6) (.t 1), (some (41, true))⟩,
 ⟨(some 43), .call 77 [(.t 42)], (some (41, true))⟩,
 ⟨(some 44), .pick (.t 41) (.t 43) (.c (.bool false)), none⟩,
 ⟨(some 45), .mv (.t 44), none⟩,
 ⟨(some 46), .fld 5 (.t 1), (some (45, true))⟩,
 ⟨(some 47), .ld none (.t 46), (some (45, true))⟩,
 ⟨(some 48), .bin .eql (.t 47) (.c (.int .u64 0)), (some (45, true))⟩,
 ⟨(some 49), .mv (.t 48), (some (45, true))⟩,
 ⟨(some 50), .mv (.t 4), (some (49, false))⟩,
 ⟨(some 51), .call 74 [(.t 50), (.c (.str [87]))], (some (49, false))⟩,
 ⟨(some 52), .pick (.t 49) (.c (.bool true)) (.t 51), (some (45, true))⟩,
 ⟨(some 53), .pick (.t 45) (.t 52) (.c (.bool false)), none⟩,
 ⟨(some 2), .mv (.t 53), none⟩])
 (.ret)

def k46_1 : ACode :=
 .seq (.region [
 ⟨(some 12), .fld 2 (.t 1), none⟩,
 ⟨(some 13), .fld 0 (.t 12), none⟩,
 ⟨(some 14), .ld none (.t 13), none⟩,
 ⟨(some 15), .len false (.t 14), none⟩,
 ⟨(some 16), .bin .eql (.t 15) (.c (.int .i64 0)), none⟩,
 ⟨(some 17), .mv (.t 16), none⟩,
 ⟨(some 18), .mv (.t 4), (some (17, true))⟩,
 ⟨(some 19), .call 74 [(.t 18), (.c (.str [66]))], (some (17, true))⟩,
 ⟨(some 20), .un .not (.t 19), (some (17, true))⟩,
 ⟨(some 21), .pick (.t 17) (.t 20) (.c (.bool false)), none⟩,
 ⟨(some 22), .mv (.t 21), none⟩,
 ⟨(some 23), .fld 2 (.t 1), (some (22, false))⟩,
 ⟨(some 24), .ld (some 1) (.t 23), (some (22, false))⟩,
 ⟨(some 25), .call 75 [(.t 24)], (some (22, false))⟩,
 ⟨(some 26), .mv (.t 25), (some (22, false))⟩,
 ⟨(some 27), .mv (.t 4), (some (26, true))⟩,
 ⟨(some 28), .call 76 [(.t 27), (.c (.str [66, 98]))], (some (26, true))⟩,
 ⟨(some 29), .pick (.t 26) (.t 28) (.c (.bool false)), (some (22, false))⟩,
 ⟨(some 30), .pick (.t 22) (.c (.bool true)) (.t 29), none⟩,
 ⟨(some 5), .mv (.t 30), none⟩])
 k46_0

def k46_2 : ACode :=
 .seq (.region [
 ⟨(some 7), .fld 0 (.t 1), none⟩,
 ⟨(some 8), .ld none (.t 7), none⟩,
 ⟨(some 9), .call 73 [(.t 8)], none⟩,
 ⟨(some 6), .mv (.t 9), none⟩,
 ⟨(some 10), .ext (.t 6) 0, none⟩,
 ⟨(some 11), .ext (.t 6) 1, none⟩,
 ⟨(some 3), .mv (.t 10), none⟩,
 ⟨(some 4), .mv (.t 11), none⟩])
 k46_1

def c46 : ACode :=
 .seq (.region [
 ⟨(some 1), .box (.t 0), none⟩,
 ⟨(some 2), .mv (.c (.bool false)), none⟩])
 k46_2
theorem ok46 : fnOk Try.prog 46 c46 54 [.t 2] = true := by kernel_rfl

def k47_0 : ACode :=
 .seq (.region [
 ⟨(some 21), .build [.int .i64 0, .int .i64 0, .int .i64 0, .int .i64 0] [], none⟩,
 ⟨(some 22), .mv (.t 10), none⟩,
 ⟨(some 6), .mv (.c (.int .i64 0)), none⟩,
 ⟨none, .st 4 (.t 7) (.t 21), none⟩,
 ⟨(some 8), .mv (.t 22), none⟩])
 (.ret)

def k47_1 : ACode :=
 .seq (.region [
 ⟨(some 31), .build [.int .i64 0, .int .i64 0, .int .i64 0, .int .i64 0] [], none⟩,
 ⟨(some 6), .mv (.c (.int .i64 0)), none⟩,
 ⟨none, .st 4 (.t 7) (.t 31), none⟩,
 ⟨(some 8), .mv (.c (.int .i64 4)), none⟩])
 (.ret)

def k47_2 : ACode :=
 .seq (.region [
 ⟨(some 24), .fld 3 (.t 3), none⟩,
 ⟨(some 25), .ld none (.t 24), none⟩,
 ⟨(some 26), .mv (.t 9), none⟩,
 ⟨(some 27), .ixs 5 (.t 25) (.t 26), none⟩,
 ⟨(some 28), .fld 0 (.t 27), none⟩,
 ⟨(some 29), .ld (some 4) (.t 28), none⟩,
 ⟨(some 30), .call 37 [(.t 29)], none⟩,
 ⟨(some 23), .mv (.t 30), none⟩])
 (.cond (.t 23)
 k47_1
 (.skip))

def k47_3 : ACode :=
 .seq (.drawn [
 (1, ⟨(some 33), .fld 3 (.t 3), none⟩),
 (2, ⟨(some 34), .ld none (.t 33), none⟩),
 (3, ⟨(some 35), .mv (.t 9), none⟩),
 (4, ⟨(some 36), .ixs 5 (.t 34) (.t 35), none⟩),
 (5, ⟨(some 37), .fld 0 (.t 36), none⟩),
 (6, ⟨(some 38), .ld (some 4) (.t 37), none⟩),
 (0, ⟨(some 32), .mv (.t 9), none⟩),
 (7, ⟨(some 6), .mv (.t 32), none⟩),
 (8, ⟨none, .st 4 (.t 7) (.t 38), none⟩),
 (9, ⟨(some 8), .mv (.c (.int .i64 0)), none⟩)]
 [[], [], [1], [], [2, 3], [4], [5], [0, 0], [6, 7, 0, 1, 2, 3, 4, 5, 6, 7], [8, 0, 1, 2, 3, 4, 5, 6, 7, 8]] 0)
 (.ret)

def k47_4 : ACode :=
 .seq (.block 0 (
 .seq (.region [
 ⟨(some 19), .mv (.t 10), none⟩,
 ⟨(some 20), .bin .neq (.t 19) (.c (.int .i64 0)), none⟩,
 ⟨(some 18), .mv (.t 20), none⟩])
 (.cond (.t 18)
 k47_0
 k47_2)))
 k47_3

def k47_5 : ACode :=
 .seq (.region [
 ⟨(some 12), .ld (some 5) (.t 3), none⟩,
 ⟨(some 13), .mv (.t 1), none⟩,
 ⟨(some 14), .ld (some 1) (.t 5), none⟩,
 ⟨(some 15), .call 78 [(.t 12), (.t 13), (.t 14)], none⟩,
 ⟨(some 11), .mv (.t 15), none⟩,
 ⟨(some 16), .ext (.t 11) 0, none⟩,
 ⟨(some 17), .ext (.t 11) 1, none⟩,
 ⟨(some 9), .mv (.t 16), none⟩,
 ⟨(some 10), .mv (.t 17), none⟩])
 k47_4

def c47 : ACode :=
 .seq (.region [
 ⟨(some 3), .box (.t 0), none⟩,
 ⟨(some 5), .box (.t 2), none⟩,
 ⟨(some 6), .mv (.c (.int .i64 0)), none⟩,
 ⟨(some 7), .new [.int .i64 0, .int .i64 0, .int .i64 0, .int .i64 0], none⟩,
 ⟨(some 8), .mv (.c (.int .i64 0)), none⟩])
 k47_5
theorem ok47 : fnOk Try.prog 47 c47 39 [.t 6, .c 7 (some 4), .t 8] = true := by kernel_rfl

def k48_0 : ACode :=
 .seq (.region [
 ⟨(some 5), .mv (.t 0), none⟩,
 ⟨(some 6), .mv (.t 1), none⟩,
 ⟨(some 7), .call 79 [(.t 5), (.t 6)], none⟩,
 ⟨(some 8), .bin .eql (.t 7) (.c (.int .i64 0)), none⟩,
 ⟨(some 4), .mv (.t 8), none⟩])
 (.ret)

def c48 : ACode :=
 .seq (.region [
 ⟨(some 4), .mv (.c (.bool false)), none⟩])
 k48_0
theorem ok48 : fnOk Try.prog 48 c48 9 [.t 4] = true := by kernel_rfl

def k53_0 : ACode :=
 .seq (.region [
 ⟨(some 25), .build [.int .i64 0, .int .i64 0, .int .i64 0, .lit (.slice none 0 0), .lit (.slice none 0 0)] [], none⟩,
 ⟨none, .st 5 (.t 4) (.t 25), none⟩,
 ⟨(some 5), .mv (.c (.int .i64 1)), none⟩])
 (.ret)

def k53_1 : ACode :=
 .region [
 ⟨(some 40), .fld 3 (.t 8), none⟩,
 ⟨(some 41), .ld none (.t 40), none⟩,
 ⟨(some 42), .mv (.t 9), none⟩,
 ⟨(some 43), .ixs 5 (.t 41) (.t 42), none⟩,
 ⟨(some 44), .fld 4 (.t 43), none⟩,
 ⟨none, .st 1 (.t 44) (.c (.int .i64 (-1))), none⟩]

def k53_2 : ACode :=
 .seq (.block 1 (
 .seq (.region [
 ⟨(some 39), .mv (.t 37), none⟩,
 ⟨(some 9), .mv (.t 39), none⟩])
 k53_1))
 (.region [
 ⟨(some 45), .bin .add (.t 37) (.c (.int .i64 1)), none⟩,
 ⟨(some 37), .mv (.t 45), none⟩])

def b53_3 : ACode :=
 .seq (.region [
 ⟨(some 38), .bin .lss (.t 37) (.t 36), none⟩])
 (.seq (.cond (.t 38)
 (.skip)
 (.exit 0))
 k53_2)

def k53_4 : ACode :=
 .region [
 ⟨(some 83), .fld 3 (.t 8), none⟩,
 ⟨(some 84), .ld none (.t 83), none⟩,
 ⟨(some 85), .mv (.t 12), none⟩,
 ⟨(some 86), .bin .add (.t 85) (.c (.int .i64 1)), none⟩,
 ⟨(some 87), .build [.int .i64 0, .int .i64 0, .int .i64 0, .int .i64 0] [(0, 1, (.c (.int .i64 3))), (1, 1, (.c (.int .i64 1))), (2, 1, (.c (.int .i64 7)))], none⟩,
 ⟨(some 88), .mv (.t 10), none⟩,
 ⟨(some 89), .bin .add (.t 88) (.c (.int .i64 1)), none⟩,
 ⟨(some 90), .build [.int .i64 0, .int .i64 0, .int .i64 0, .int .i64 0, .int .i64 0] [(0, 4, (.t 87)), (4, 1, (.t 89))], none⟩,
 ⟨(some 91), .ixs 5 (.t 84) (.t 86), none⟩,
 ⟨none, .st 5 (.t 91) (.t 90), none⟩]

def k53_5 : ACode :=
 .seq (.drawn [
 (0, ⟨(some 74), .fld 4 (.t 8), none⟩),
 (1, ⟨(some 75), .ld none (.t 74), none⟩),
 (4, ⟨(some 78), .mv (.t 12), none⟩),
 (5, ⟨(some 79), .call 81 [(.c (.int .i64 2)), (.c (.int .i64 3)), (.t 78)], none⟩),
 (2, ⟨(some 76), .mv (.t 11), none⟩),
 (3, ⟨(some 77), .bin .add (.c (.int .i64 2)) (.t 76), none⟩),
 (6, ⟨(some 73), .mv (.t 79), none⟩),
 (7, ⟨(some 80), .ext (.t 73) 0, none⟩),
 (9, ⟨(some 82), .ixs 13 (.t 75) (.t 77), none⟩),
 (10, ⟨none, .st 13 (.t 82) (.t 80), none⟩),
 (8, ⟨(some 81), .ext (.t 73) 1, none⟩)]
 [[], [0], [], [2], [], [4], [5], [6], [6], [1, 3, 0, 1, 2, 3, 4, 5, 6, 7], [9, 7, 5, 0, 1, 2, 3, 4, 5, 6, 7]] 0)
 k53_4

def k53_6 : ACode :=
 .seq (.region [
 ⟨(some 70), .ld (some 3) (.t 2), none⟩,
 ⟨(some 71), .mv (.t 11), none⟩,
 ⟨(some 72), .call 70 [(.t 70), (.t 71)], none⟩,
 ⟨(some 12), .mv (.t 72), none⟩])
 k53_5

def k53_7 : ACode :=
 .seq (.block 3 (
 .seq (.region [
 ⟨(some 69), .mv (.t 67), none⟩,
 ⟨(some 11), .mv (.t 69), none⟩])
 k53_6))
 (.region [
 ⟨(some 92), .bin .add (.t 67) (.c (.int .i64 1)), none⟩,
 ⟨(some 67), .mv (.t 92), none⟩])

def b53_8 : ACode :=
 .seq (.region [
 ⟨(some 68), .bin .lss (.t 67) (.t 66), none⟩])
 (.seq (.cond (.t 68)
 (.skip)
 (.exit 2))
 k53_7)

def k53_9 : ACode :=
 .seq (.region [
 ⟨(some 99), .ld (some 5) (.t 8), none⟩,
 ⟨none, .st 5 (.t 4) (.t 99), none⟩,
 ⟨(some 5), .mv (.c (.int .i64 0)), none⟩])
 (.ret)

def k53_10 : ACode :=
 .seq (.region [
 ⟨(some 93), .fld 3 (.t 8), none⟩,
 ⟨(some 94), .ld none (.t 93), none⟩,
 ⟨(some 95), .mv (.t 10), none⟩,
 ⟨(some 96), .bin .add (.t 95) (.c (.int .i64 1)), none⟩,
 ⟨(some 97), .ixs 5 (.t 94) (.t 96), none⟩,
 ⟨(some 98), .fld 4 (.t 97), none⟩,
 ⟨none, .st 1 (.t 98) (.c (.int .i64 (-1))), none⟩])
 k53_9

def k53_11 : ACode :=
 .seq (.seq (.region [
 ⟨(some 65), .fld 0 (.t 2), none⟩,
 ⟨(some 66), .ld none (.t 65), none⟩,
 ⟨(some 67), .mv (.c (.int .i64 0)), none⟩])
 (.block 2 (
 .loop b53_8)))
 k53_10

def k53_12 : ACode :=
 .seq (.region [
 ⟨(some 59), .fld 3 (.t 8), none⟩,
 ⟨(some 60), .ld none (.t 59), none⟩,
 ⟨(some 61), .mv (.t 10), none⟩,
 ⟨(some 62), .build [.int .i64 0, .int .i64 0, .int .i64 0, .int .i64 0] [(0, 1, (.c (.int .i64 1))), (1, 1, (.c (.int .i64 0))), (2, 1, (.c (.int .i64 7)))], none⟩,
 ⟨(some 63), .ixs 5 (.t 60) (.t 61), none⟩,
 ⟨(some 64), .fld 0 (.t 63), none⟩,
 ⟨none, .st 4 (.t 64) (.t 62), none⟩])
 k53_11

def k53_13 : ACode :=
 .seq (.region [
 ⟨(some 57), .ld (some 3) (.t 2), none⟩,
 ⟨(some 58), .call 70 [(.t 57), (.c (.int .i64 0))], none⟩,
 ⟨(some 10), .mv (.t 58), none⟩])
 k53_12

def k53_14 : ACode :=
 .seq (.drawn [
 (0, ⟨(some 51), .fld 4 (.t 8), none⟩),
 (1, ⟨(some 52), .ld none (.t 51), none⟩),
 (2, ⟨(some 53), .call 81 [(.c (.int .i64 3)), (.c (.int .i64 0)), (.c (.int .i64 0))], none⟩),
 (3, ⟨(some 50), .mv (.t 53), none⟩),
 (4, ⟨(some 54), .ext (.t 50) 0, none⟩),
 (6, ⟨(some 56), .ixs 13 (.t 52) (.c (.int .i64 1)), none⟩),
 (7, ⟨none, .st 13 (.t 56) (.t 54), none⟩),
 (5, ⟨(some 55), .ext (.t 50) 1, none⟩)]
 [[], [0], [], [2], [3], [3], [1, 0, 1, 2, 3, 4], [6, 4, 2, 0, 1, 2, 3, 4]] 0)
 k53_13

def k53_15 : ACode :=
 .seq (.region [
 ⟨(some 46), .fld 4 (.t 8), none⟩,
 ⟨(some 47), .ld none (.t 46), none⟩,
 ⟨(some 48), .ld (some 13) (.t 6), none⟩,
 ⟨(some 49), .ixs 13 (.t 47) (.c (.int .i64 0)), none⟩,
 ⟨none, .st 13 (.t 49) (.t 48), none⟩])
 k53_14

def k53_16 : ACode :=
 .seq (.seq (.region [
 ⟨(some 34), .fld 3 (.t 8), none⟩,
 ⟨(some 35), .ld none (.t 34), none⟩,
 ⟨(some 36), .len false (.t 35), none⟩,
 ⟨(some 37), .mv (.c (.int .i64 0)), none⟩])
 (.block 0 (
 .loop b53_3)))
 k53_15

def k53_17 : ACode :=
 .seq (.drawn [
 (0, ⟨(some 26), .ld (some 3) (.t 2), none⟩),
 (1, ⟨(some 27), .fld 1 (.t 2), none⟩),
 (2, ⟨(some 28), .ld none (.t 27), none⟩),
 (4, ⟨(some 30), .fld 2 (.t 2), none⟩),
 (5, ⟨(some 31), .ld none (.t 30), none⟩),
 (3, ⟨(some 29), .born 0 (.mks 5 40 [.int .i64 0, .int .i64 0, .int .i64 0, .int .i64 0, .int .i64 0] (.t 28) (.t 28)), none⟩),
 (6, ⟨(some 32), .born 1 (.mks 13 104 [.int .i64 0, .int .i64 0, .int .i64 0, .int .i64 0, .int .i64 0, .int .i64 0, .int .i64 0, .bool false, .int .u64 0, .int .u64 0, .int .u64 0, .int .u64 0, .int .u64 0] (.t 31) (.t 31)), none⟩),
 (7, ⟨(some 33), .build [.int .i64 0, .int .i64 0, .int .i64 0, .lit (.slice none 0 0), .lit (.slice none 0 0)] [(0, 3, (.t 26)), (3, 1, (.t 29)), (4, 1, (.t 32))], none⟩),
 (8, ⟨(some 8), .born 2 (.new [.int .i64 0, .int .i64 0, .int .i64 0, .lit (.slice none 0 0), .lit (.slice none 0 0)]), none⟩),
 (9, ⟨none, .st 5 (.t 8) (.t 33), none⟩)]
 [[], [], [1], [2, 2], [], [4], [5, 5], [0, 3, 6], [], [8, 7, 0, 1, 2, 3, 4, 5, 6, 7, 8]] 3)
 k53_16

def k53_18 : ACode :=
 .seq (.seq (.region [
 ⟨(some 18), .ld (some 3) (.t 2), none⟩,
 ⟨(some 19), .call 40 [(.t 18)], none⟩,
 ⟨(some 20), .un .not (.t 19), none⟩,
 ⟨(some 21), .mv (.t 20), none⟩,
 ⟨(some 22), .mv (.t 7), (some (21, false))⟩,
 ⟨(some 23), .un .not (.t 22), (some (21, false))⟩,
 ⟨(some 24), .pick (.t 21) (.c (.bool true)) (.t 23), none⟩])
 (.cond (.t 24)
 k53_0
 (.skip)))
 k53_17

def k53_19 : ACode :=
 .seq (.region [
 ⟨(some 14), .mv (.t 1), none⟩,
 ⟨(some 15), .call 81 [(.c (.int .i64 1)), (.t 14), (.c (.int .i64 0))], none⟩,
 ⟨(some 13), .mv (.t 15), none⟩,
 ⟨(some 16), .ext (.t 13) 0, none⟩,
 ⟨(some 17), .ext (.t 13) 1, none⟩,
 ⟨(some 6), .new [.int .i64 0, .int .i64 0, .int .i64 0, .int .i64 0, .int .i64 0, .int .i64 0, .int .i64 0, .bool false, .int .u64 0, .int .u64 0, .int .u64 0, .int .u64 0, .int .u64 0], none⟩,
 ⟨none, .st 13 (.t 6) (.t 16), none⟩,
 ⟨(some 7), .mv (.t 17), none⟩])
 k53_18

def c53 : ACode :=
 .seq (.region [
 ⟨(some 2), .box (.t 0), none⟩,
 ⟨(some 4), .new [.int .i64 0, .int .i64 0, .int .i64 0, .lit (.slice none 0 0), .lit (.slice none 0 0)], none⟩,
 ⟨(some 5), .mv (.c (.int .i64 0)), none⟩])
 k53_19
theorem ok53 : fnOk Try.prog 53 c53 100 [.c 4 (some 5), .t 5] = true := by kernel_rfl

def c54 : ACode :=
 .seq (.region [
 ⟨(some 0), .new [.int .i64 0, .int .i64 0, .int .i64 0], none⟩])
 (.seq (.region [
 ⟨(some 1), .build [.int .i64 0, .int .i64 0, .int .i64 0] [(0, 1, (.c (.int .i64 2))), (1, 1, (.c (.int .i64 32))), (2, 1, (.c (.int .i64 16)))], none⟩,
 ⟨none, .st 3 (.t 0) (.t 1), none⟩])
 (.ret))
theorem ok54 : fnOk Try.prog 54 c54 2 [.c 0 (some 3)] = true := by kernel_rfl

def k58_0 : ACode :=
 .cond (.t 8)
 (.seq (.region [
 ⟨(some 4), .mv (.c (.lit (.slice none 0 0))), none⟩])
 (.ret))
 (.skip)

def k58_1 : ACode :=
 .seq (.region [
 ⟨(some 9), .ld (some 1) (.t 2), none⟩,
 ⟨(some 10), .mv (.t 1), none⟩,
 ⟨(some 11), .call 84 [(.t 9), (.t 10)], none⟩,
 ⟨(some 4), .mv (.t 11), none⟩])
 (.ret)

def k58_2 : ACode :=
 .seq (.seq (.region [
 ⟨(some 5), .ld (some 1) (.t 2), none⟩,
 ⟨(some 6), .mv (.t 1), none⟩,
 ⟨(some 7), .call 83 [(.t 5), (.t 6)], none⟩,
 ⟨(some 8), .un .not (.t 7), none⟩])
 k58_0)
 k58_1

def c58 : ACode :=
 .seq (.region [
 ⟨(some 2), .box (.t 0), none⟩,
 ⟨(some 4), .mv (.c (.lit (.slice none 0 0))), none⟩])
 k58_2
theorem ok58 : fnOk Try.prog 58 c58 12 [.t 4] = true := by kernel_rfl

def k59_0 : ACode :=
 .seq (.region [
 ⟨(some 7), .mv (.t 0), none⟩,
 ⟨(some 8), .mv (.t 1), none⟩,
 ⟨(some 9), .bin .geq (.t 7) (.t 8), none⟩,
 ⟨(some 10), .mv (.t 9), none⟩,
 ⟨(some 11), .mv (.t 0), (some (10, true))⟩,
 ⟨(some 12), .mv (.t 2), (some (10, true))⟩,
 ⟨(some 13), .bin .leq (.t 11) (.t 12), (some (10, true))⟩,
 ⟨(some 14), .pick (.t 10) (.t 13) (.c (.bool false)), none⟩,
 ⟨(some 6), .mv (.t 14), none⟩])
 (.ret)

def c59 : ACode :=
 .seq (.region [
 ⟨(some 6), .mv (.c (.bool false)), none⟩])
 k59_0
theorem ok59 : fnOk Try.prog 59 c59 15 [.t 6] = true := by kernel_rfl

def k60_0 : ACode :=
 .seq (.region [
 ⟨(some 5), .mv (.t 1), none⟩,
 ⟨(some 6), .bin .geq (.t 5) (.c (.int .i64 0)), none⟩,
 ⟨(some 7), .mv (.t 6), none⟩,
 ⟨(some 8), .mv (.t 1), (some (7, true))⟩,
 ⟨(some 9), .fld 0 (.t 2), (some (7, true))⟩,
 ⟨(some 10), .ld none (.t 9), (some (7, true))⟩,
 ⟨(some 11), .len false (.t 10), (some (7, true))⟩,
 ⟨(some 12), .bin .lss (.t 8) (.t 11), (some (7, true))⟩,
 ⟨(some 13), .pick (.t 7) (.t 12) (.c (.bool false)), none⟩,
 ⟨(some 14), .mv (.t 13), none⟩,
 ⟨(some 15), .fld 0 (.t 2), (some (14, true))⟩,
 ⟨(some 16), .ld none (.t 15), (some (14, true))⟩,
 ⟨(some 17), .mv (.t 1), (some (14, true))⟩,
 ⟨(some 18), .ixs 1 (.t 16) (.t 17), (some (14, true))⟩,
 ⟨(some 19), .ld none (.t 18), (some (14, true))⟩,
 ⟨(some 20), .bin .neq (.t 19) (.c (.int .i64 (-2))), (some (14, true))⟩,
 ⟨(some 21), .pick (.t 14) (.t 20) (.c (.bool false)), none⟩,
 ⟨(some 4), .mv (.t 21), none⟩])
 (.ret)

def c60 : ACode :=
 .seq (.region [
 ⟨(some 2), .box (.t 0), none⟩,
 ⟨(some 4), .mv (.c (.bool false)), none⟩])
 k60_0
theorem ok60 : fnOk Try.prog 60 c60 22 [.t 4] = true := by kernel_rfl

def k62_0 : ACode :=
 .seq (.region [
 ⟨(some 3), .fld 0 (.t 1), none⟩,
 ⟨(some 4), .ld none (.t 3), none⟩,
 ⟨(some 5), .bin .eql (.t 4) (.c (.int .i64 0)), none⟩,
 ⟨(some 2), .mv (.t 5), none⟩])
 (.ret)

def c62 : ACode :=
 .seq (.region [
 ⟨(some 1), .box (.t 0), none⟩,
 ⟨(some 2), .mv (.c (.bool false)), none⟩])
 k62_0
theorem ok62 : fnOk Try.prog 62 c62 6 [.t 2] = true := by kernel_rfl

def k63_0 : ACode :=
 .cond (.t 4)
 (.seq (.region [
 ⟨(some 2), .mv (.c (.bool true)), none⟩])
 (.ret))
 (.skip)

def k63_1 : ACode :=
 .seq (.region [
 ⟨(some 5), .fld 0 (.t 1), none⟩,
 ⟨(some 6), .ld none (.t 5), none⟩,
 ⟨(some 7), .call 85 [(.t 6), (.c (.int .i64 1)), (.c (.int .i64 5))], none⟩,
 ⟨(some 8), .mv (.t 7), none⟩,
 ⟨(some 9), .fld 1 (.t 1), (some (8, true))⟩,
 ⟨(some 10), .ld none (.t 9), (some (8, true))⟩,
 ⟨(some 11), .call 85 [(.t 10), (.c (.int .i64 0)), (.c (.int .i64 47))], (some (8, true))⟩,
 ⟨(some 12), .pick (.t 8) (.t 11) (.c (.bool false)), none⟩,
 ⟨(some 13), .mv (.t 12), none⟩,
 ⟨(some 14), .fld 2 (.t 1), (some (13, true))⟩,
 ⟨(some 15), .ld none (.t 14), (some (13, true))⟩,
 ⟨(some 16), .call 86 [(.t 15)], (some (13, true))⟩,
 ⟨(some 17), .pick (.t 13) (.t 16) (.c (.bool false)), none⟩,
 ⟨(some 18), .mv (.t 17), none⟩,
 ⟨(some 19), .fld 3 (.t 1), (some (18, true))⟩,
 ⟨(some 20), .ld none (.t 19), (some (18, true))⟩,
 ⟨(some 21), .call 87 [(.t 20)], (some (18, true))⟩,
 ⟨(some 22), .pick (.t 18) (.t 21) (.c (.bool false)), none⟩,
 ⟨(some 23), .mv (.t 22), none⟩,
 ⟨(some 24), .fld 3 (.t 1), (some (23, true))⟩,
 ⟨(some 25), .ld none (.t 24), (some (23, true))⟩,
 ⟨(some 26), .bin .eql (.t 25) (.c (.int .i64 0)), (some (23, true))⟩,
 ⟨(some 27), .mv (.t 26), (some (23, true))⟩,
 ⟨(some 28), .fld 0 (.t 1), (some (27, false))⟩,
 ⟨(some 29), .ld none (.t 28), (some (27, false))⟩,
 ⟨(some 30), .call 88 [(.t 29)], (some (27, false))⟩,
 ⟨(some 31), .pick (.t 27) (.c (.bool true)) (.t 30), (some (23, true))⟩,
 ⟨(some 32), .pick (.t 23) (.t 31) (.c (.bool false)), none⟩,
 ⟨(some 2), .mv (.t 32), none⟩])
 (.ret)

def k63_2 : ACode :=
 .seq (.seq (.region [
 ⟨(some 3), .ld (some 4) (.t 1), none⟩,
 ⟨(some 4), .call 37 [(.t 3)], none⟩])
 k63_0)
 k63_1

def c63 : ACode :=
 .seq (.region [
 ⟨(some 1), .box (.t 0), none⟩,
 ⟨(some 2), .mv (.c (.bool false)), none⟩])
 k63_2
theorem ok63 : fnOk Try.prog 63 c63 33 [.t 2] = true := by kernel_rfl

def k64_0 : ACode :=
 .cond (.t 18)
 (.seq (.region [
 ⟨(some 4), .mv (.c (.int .i64 (-1))), none⟩])
 (.ret))
 (.skip)

def k64_1 : ACode :=
 .seq (.region [
 ⟨(some 19), .ld (some 5) (.t 2), none⟩,
 ⟨(some 20), .mv (.t 1), none⟩,
 ⟨(some 21), .call 89 [(.t 19), (.t 20)], none⟩,
 ⟨(some 4), .mv (.t 21), none⟩])
 (.ret)

def k64_2 : ACode :=
 .seq (.seq (.region [
 ⟨(some 5), .ld (some 5) (.t 2), none⟩,
 ⟨(some 6), .call 15 [(.t 5)], none⟩,
 ⟨(some 7), .un .not (.t 6), none⟩,
 ⟨(some 8), .mv (.t 7), none⟩,
 ⟨(some 9), .mv (.t 1), (some (8, false))⟩,
 ⟨(some 10), .bin .lss (.t 9) (.c (.int .i64 0)), (some (8, false))⟩,
 ⟨(some 11), .pick (.t 8) (.c (.bool true)) (.t 10), none⟩,
 ⟨(some 12), .mv (.t 11), none⟩,
 ⟨(some 13), .mv (.t 1), (some (12, false))⟩,
 ⟨(some 14), .fld 3 (.t 2), (some (12, false))⟩,
 ⟨(some 15), .ld none (.t 14), (some (12, false))⟩,
 ⟨(some 16), .len false (.t 15), (some (12, false))⟩,
 ⟨(some 17), .bin .geq (.t 13) (.t 16), (some (12, false))⟩,
 ⟨(some 18), .pick (.t 12) (.c (.bool true)) (.t 17), none⟩])
 k64_0)
 k64_1

def c64 : ACode :=
 .seq (.region [
 ⟨(some 2), .box (.t 0), none⟩,
 ⟨(some 4), .mv (.c (.int .i64 0)), none⟩])
 k64_2
theorem ok64 : fnOk Try.prog 64 c64 22 [.t 4] = true := by kernel_rfl

def k67_0 : ACode :=
 .seq (.region [
 ⟨(some 7), .mv (.t 0), none⟩,
 ⟨(some 8), .mv (.t 1), none⟩,
 ⟨(some 9), .bin .geq (.t 7) (.t 8), none⟩,
 ⟨(some 10), .mv (.t 9), none⟩,
 ⟨(some 11), .mv (.t 0), (some (10, true))⟩,
 ⟨(some 12), .mv (.t 2), (some (10, true))⟩,
 ⟨(some 13), .bin .leq (.t 11) (.t 12), (some (10, true))⟩,
 ⟨(some 14), .pick (.t 10) (.t 13) (.c (.bool false)), none⟩,
 ⟨(some 6), .mv (.t 14), none⟩])
 (.ret)

def c67 : ACode :=
 .seq (.region [
 ⟨(some 6), .mv (.c (.bool false)), none⟩])
 k67_0
theorem ok67 : fnOk Try.prog 67 c67 15 [.t 6] = true := by kernel_rfl

def k68_0 : ACode :=
 .seq (.region [
 ⟨(some 5), .mv (.t 1), none⟩,
 ⟨(some 6), .bin .geq (.t 5) (.c (.int .i64 0)), none⟩,
 ⟨(some 7), .mv (.t 6), none⟩,
 ⟨(some 8), .mv (.t 1), (some (7, true))⟩,
 ⟨(some 9), .fld 4 (.t 2), (some (7, true))⟩,
 ⟨(some 10), .ld none (.t 9), (some (7, true))⟩,
 ⟨(some 11), .len false (.t 10), (some (7, true))⟩,
 ⟨(some 12), .bin .lss (.t 8) (.t 11), (some (7, true))⟩,
 ⟨(some 13), .pick (.t 7) (.t 12) (.c (.bool false)), none⟩,
 ⟨(some 14), .mv (.t 13), none⟩,
 ⟨(some 15), .fld 4 (.t 2), (some (14, true))⟩,
 ⟨(some 16), .ld none (.t 15), (some (14, true))⟩,
 ⟨(some 17), .mv (.t 1), (some (14, true))⟩,
 ⟨(some 18), .ixs 13 (.t 16) (.t 17), (some (14, true))⟩,
 ⟨(some 19), .fld 0 (.t 18), (some (14, true))⟩,
 ⟨(some 20), .ld none (.t 19), (some (14, true))⟩,
 ⟨(some 21), .bin .neq (.t 20) (.c (.int .i64 0)), (some (14, true))⟩,
 ⟨(some 22), .pick (.t 14) (.t 21) (.c (.bool false)), none⟩,
 ⟨(some 4), .mv (.t 22), none⟩])
 (.ret)

def c68 : ACode :=
 .seq (.region [
 ⟨(some 2), .box (.t 0), none⟩,
 ⟨(some 4), .mv (.c (.bool false)), none⟩])
 k68_0
theorem ok68 : fnOk Try.prog 68 c68 23 [.t 4] = true := by kernel_rfl

def k69_0 : ACode :=
 .cond (.t 6)
 (.seq (.region [
 ⟨(some 2), .mv (.c (.bool false)), none⟩])
 (.ret))
 (.skip)

def k69_1 : ACode :=
 .seq (.region [
 ⟨(some 11), .fld 3 (.t 1), none⟩,
 ⟨(some 12), .ld none (.t 11), none⟩,
 ⟨(some 13), .call 59 [(.t 12), (.c (.int .i64 1)), (.c (.int .i64 4096))], none⟩,
 ⟨(some 14), .mv (.t 13), none⟩,
 ⟨(some 15), .fld 4 (.t 1), (some (14, true))⟩,
 ⟨(some 16), .ld none (.t 15), (some (14, true))⟩,
 ⟨(some 17), .fld 3 (.t 1), (some (14, true))⟩,
 ⟨(some 18), .ld none (.t 17), (some (14, true))⟩,
 ⟨(some 19), .call 59 [(.t 16), (.c (.int .i64 0)), (.t 18)], (some (14, true))⟩,
 ⟨(some 20), .pick (.t 14) (.t 19) (.c (.bool false)), none⟩,
 ⟨(some 2), .mv (.t 20), none⟩])
 (.ret)

def k69_2 : ACode :=
 .seq (.drawn [
 (0, ⟨(some 23), .fld 1 (.t 1), none⟩),
 (1, ⟨(some 24), .ld none (.t 23), none⟩),
 (2, ⟨(some 25), .call 59 [(.t 24), (.c (.int .i64 1)), (.c (.int .i64 4))], none⟩),
 (3, ⟨(some 26), .mv (.t 25), none⟩),
 (4, ⟨(some 27), .fld 2 (.t 1), (some (26, true))⟩),
 (5, ⟨(some 28), .ld none (.t 27), (some (26, true))⟩),
 (6, ⟨(some 29), .fld 1 (.t 1), (some (26, true))⟩),
 (7, ⟨(some 30), .ld none (.t 29), (some (26, true))⟩),
 (8, ⟨(some 31), .bin .shl (.c (.int .i64 1)) (.t 30), (some (26, true))⟩),
 (9, ⟨(some 32), .bin .sub (.c (.int .i64 96)) (.t 31), (some (26, true))⟩),
 (10, ⟨(some 33), .call 59 [(.t 28), (.c (.int .i64 0)), (.t 32)], (some (26, true))⟩),
 (11, ⟨(some 34), .pick (.t 26) (.t 33) (.c (.bool false)), none⟩),
 (12, ⟨(some 2), .mv (.t 34), none⟩)]
 [[], [0], [1], [2, 2], [3], [4, 3], [3], [6, 3], [7, 3], [8, 3], [5, 9, 3, 3], [3, 10], [11, 10, 0, 1, 2, 3, 4, 5, 6, 7, 8, 9, 10, 11]] 0)
 (.ret)

def k69_3 : ACode :=
 .seq (.region [
 ⟨(some 37), .fld 6 (.t 1), none⟩,
 ⟨(some 38), .ld none (.t 37), none⟩,
 ⟨(some 39), .call 59 [(.t 38), (.c (.int .i64 0)), (.c (.int .i64 65535))], none⟩,
 ⟨(some 40), .mv (.t 39), none⟩,
 ⟨(some 41), .fld 5 (.t 1), (some (40, true))⟩,
 ⟨(some 42), .ld none (.t 41), (some (40, true))⟩,
 ⟨(some 43), .call 59 [(.t 42), (.c (.int .i64 0)), (.c (.int .i64 96))], (some (40, true))⟩,
 ⟨(some 44), .pick (.t 40) (.t 43) (.c (.bool false)), none⟩,
 ⟨(some 2), .mv (.t 44), none⟩])
 (.ret)

def k69_4 : ACode :=
 .seq (.region [
 ⟨(some 36), .bin .eql (.t 8) (.c (.int .i64 3)), none⟩,
 ⟨(some 35), .mv (.t 36), none⟩])
 (.cond (.t 35)
 k69_3
 (.skip))

def k69_5 : ACode :=
 .seq (.region [
 ⟨(some 22), .bin .eql (.t 8) (.c (.int .i64 2)), none⟩,
 ⟨(some 21), .mv (.t 22), none⟩])
 (.cond (.t 21)
 k69_2
 k69_4)

def k69_6 : ACode :=
 .block 0 (
 .seq (.region [
 ⟨(some 10), .bin .eql (.t 8) (.c (.int .i64 1)), none⟩,
 ⟨(some 9), .mv (.t 10), none⟩])
 (.cond (.t 9)
 k69_1
 k69_5))

def k69_7 : ACode :=
 .seq (.seq (.region [
 ⟨(some 7), .fld 0 (.t 1), none⟩,
 ⟨(some 8), .ld none (.t 7), none⟩])
 k69_6)
 (.seq (.region [
 ⟨(some 2), .mv (.c (.bool true)), none⟩])
 (.ret))

def k69_8 : ACode :=
 .seq (.seq (.drawn [
 (0, ⟨(some 3), .ld (some 13) (.t 1), none⟩),
 (2, ⟨(some 5), .ld (some 13) (.t 1), none⟩),
 (1, ⟨(some 4), .call 94 [(.t 3)], none⟩),
 (3, ⟨(some 6), .eqs true [0, 0, 0, 0, 0, 0, 0, 1, 0, 0, 0, 0, 0] (.t 4) (.t 5), none⟩)]
 [[], [0], [], [1, 2]] 0)
 k69_0)
 k69_7

def c69 : ACode :=
 .seq (.region [
 ⟨(some 1), .box (.t 0), none⟩,
 ⟨(some 2), .mv (.c (.bool false)), none⟩])
 k69_8
theorem ok69 : fnOk Try.prog 69 c69 45 [.t 2] = true := by kernel_rfl

def k70_0 : ACode :=
 .cond (.t 15)
 (.seq (.region [
 ⟨(some 4), .mv (.c (.int .i64 0)), none⟩])
 (.ret))
 (.skip)

def k70_1 : ACode :=
 .seq (.region [
 ⟨(some 16), .mv (.t 1), none⟩,
 ⟨(some 17), .bin .mul (.c (.int .i64 8)) (.t 16), none⟩,
 ⟨(some 4), .mv (.t 17), none⟩])
 (.ret)

def k70_2 : ACode :=
 .seq (.seq (.region [
 ⟨(some 5), .ld (some 3) (.t 2), none⟩,
 ⟨(some 6), .call 40 [(.t 5)], none⟩,
 ⟨(some 7), .un .not (.t 6), none⟩,
 ⟨(some 8), .mv (.t 7), none⟩,
 ⟨(some 9), .mv (.t 1), (some (8, false))⟩,
 ⟨(some 10), .fld 0 (.t 2), (some (8, false))⟩,
 ⟨(some 11), .ld none (.t 10), (some (8, false))⟩,
 ⟨(some 12), .bin .sub (.t 11) (.c (.int .i64 1)), (some (8, false))⟩,
 ⟨(some 13), .call 67 [(.t 9), (.c (.int .i64 0)), (.t 12)], (some (8, false))⟩,
 ⟨(some 14), .un .not (.t 13), (some (8, false))⟩,
 ⟨(some 15), .pick (.t 8) (.c (.bool true)) (.t 14), none⟩])
 k70_0)
 k70_1

def c70 : ACode :=
 .seq (.region [
 ⟨(some 2), .box (.t 0), none⟩,
 ⟨(some 4), .mv (.c (.int .i64 0)), none⟩])
 k70_2
theorem ok70 : fnOk Try.prog 70 c70 18 [.t 4] = true := by kernel_rfl

def k71_0 : ACode :=
 .region [
 ⟨(some 27), .mv (.t 5), none⟩,
 ⟨(some 28), .mv (.t 6), none⟩,
 ⟨(some 29), .bsl 1 1 [.int .i64 0] [(0, (.t 28))], none⟩,
 ⟨(some 30), .app 1 8 (.t 27) (.t 29), none⟩,
 ⟨(some 5), .mv (.t 30), none⟩]

def k71_1 : ACode :=
 .seq (.region [
 ⟨(some 16), .fld 0 (.t 7), none⟩,
 ⟨(some 17), .ld (some 4) (.t 16), none⟩,
 ⟨(some 18), .call 37 [(.t 17)], none⟩,
 ⟨(some 19), .un .not (.t 18), none⟩,
 ⟨(some 20), .mv (.t 19), none⟩,
 ⟨(some 21), .fld 0 (.t 7), (some (20, true))⟩,
 ⟨(some 22), .fld 1 (.t 21), (some (20, true))⟩,
 ⟨(some 23), .ld none (.t 22), (some (20, true))⟩,
 ⟨(some 24), .mv (.t 1), (some (20, true))⟩,
 ⟨(some 25), .bin .eql (.t 23) (.t 24), (some (20, true))⟩,
 ⟨(some 26), .pick (.t 20) (.t 25) (.c (.bool false)), none⟩])
 (.cond (.t 26)
 k71_0
 (.skip))

def k71_2 : ACode :=
 .seq (.block 1 (
 .seq (.region [
 ⟨(some 13), .mv (.t 11), none⟩,
 ⟨(some 14), .ixs 5 (.t 9) (.t 11), none⟩,
 ⟨(some 15), .ld (some 5) (.t 14), none⟩,
 ⟨(some 7), .new [.int .i64 0, .int .i64 0, .int .i64 0, .int .i64 0, .int .i64 0], none⟩,
 ⟨(some 6), .mv (.t 13), none⟩,
 ⟨none, .st 5 (.t 7) (.t 15), none⟩])
 k71_1))
 (.region [
 ⟨(some 31), .bin .add (.t 11) (.c (.int .i64 1)), none⟩,
 ⟨(some 11), .mv (.t 31), none⟩])

def b71_3 : ACode :=
 .seq (.region [
 ⟨(some 12), .bin .lss (.t 11) (.t 10), none⟩])
 (.seq (.cond (.t 12)
 (.skip)
 (.exit 0))
 k71_2)

def k71_4 : ACode :=
 .seq (.seq (.region [
 ⟨(some 8), .fld 3 (.t 2), none⟩,
 ⟨(some 9), .ld none (.t 8), none⟩,
 ⟨(some 10), .len false (.t 9), none⟩,
 ⟨(some 11), .mv (.c (.int .i64 0)), none⟩])
 (.block 0 (
 .loop b71_3)))
 (.seq (.region [
 ⟨(some 32), .mv (.t 5), none⟩,
 ⟨(some 4), .mv (.t 32), none⟩])
 (.ret))

def c71 : ACode :=
 .seq (.region [
 ⟨(some 2), .box (.t 0), none⟩,
 ⟨(some 4), .mv (.c (.lit (.slice none 0 0))), none⟩])
 (.seq (.region [
 ⟨(some 5), .mv (.c (.lit (.slice none 0 0))), none⟩])
 k71_4)
theorem ok71 : fnOk Try.prog 71 c71 33 [.t 4] = true := by kernel_rfl

def k72_0 : ACode :=
 .cond (.t 20)
 (.seq (.region [
 ⟨(some 6), .mv (.c (.bool false)), none⟩])
 (.ret))
 (.skip)

def k72_1 : ACode :=
 .seq (.region [
 ⟨(some 26), .mv (.t 7), none⟩,
 ⟨(some 27), .ld (some 5) (.t 3), none⟩,
 ⟨(some 28), .mv (.t 2), none⟩,
 ⟨(some 29), .call 89 [(.t 27), (.t 28)], none⟩,
 ⟨(some 30), .mlk (.bool false) (.t 26) (.t 29), none⟩,
 ⟨(some 6), .mv (.t 30), none⟩])
 (.ret)

def k72_2 : ACode :=
 .seq (.region [
 ⟨(some 22), .ld (some 5) (.t 3), none⟩,
 ⟨(some 23), .mv (.t 1), none⟩,
 ⟨(some 24), .mv (.t 7), none⟩,
 ⟨(some 25), .call 95 [(.t 22), (.t 23), (.t 24)], none⟩])
 k72_1

def k72_3 : ACode :=
 .seq (.seq (.region [
 ⟨(some 8), .ld (some 5) (.t 3), none⟩,
 ⟨(some 9), .mv (.t 1), none⟩,
 ⟨(some 10), .call 68 [(.t 8), (.t 9)], none⟩,
 ⟨(some 11), .un .not (.t 10), none⟩,
 ⟨(some 12), .mv (.t 11), none⟩,
 ⟨(some 13), .fld 4 (.t 3), (some (12, false))⟩,
 ⟨(some 14), .ld none (.t 13), (some (12, false))⟩,
 ⟨(some 15), .mv (.t 1), (some (12, false))⟩,
 ⟨(some 16), .ixs 13 (.t 14) (.t 15), (some (12, false))⟩,
 ⟨(some 17), .fld 0 (.t 16), (some (12, false))⟩,
 ⟨(some 18), .ld none (.t 17), (some (12, false))⟩,
 ⟨(some 19), .bin .neq (.t 18) (.c (.int .i64 2)), (some (12, false))⟩,
 ⟨(some 20), .pick (.t 12) (.c (.bool true)) (.t 19), none⟩])
 k72_0)
 (.seq (.region [
 ⟨(some 21), .mkm, none⟩,
 ⟨(some 7), .mv (.t 21), none⟩])
 k72_2)

def c72 : ACode :=
 .seq (.region [
 ⟨(some 3), .box (.t 0), none⟩,
 ⟨(some 6), .mv (.c (.bool false)), none⟩])
 k72_3
theorem ok72 : fnOk Try.prog 72 c72 31 [.t 6] = true := by kernel_rfl

def k73_0 : ACode :=
 .cond (.t 11)
 (.seq (.region [
 ⟨(some 2), .mv (.c (.str [])), none⟩,
 ⟨(some 3), .mv (.c (.str [])), none⟩])
 (.ret))
 (.skip)

def k73_1 : ACode :=
 .seq (.region [
 ⟨(some 21), .mv (.t 2), none⟩,
 ⟨(some 22), .mv (.t 3), none⟩,
 ⟨(some 2), .mv (.t 21), none⟩,
 ⟨(some 3), .mv (.t 22), none⟩])
 (.ret)

def k73_2 : ACode :=
 .seq (.region [
 ⟨(some 13), .mv (.t 4), none⟩,
 ⟨(some 14), .mv (.t 0), none⟩,
 ⟨(some 15), .ixs 1 (.t 13) (.t 14), none⟩,
 ⟨(some 16), .ld none (.t 15), none⟩,
 ⟨(some 17), .call 96 [(.t 16), (.c (.str [32]))], none⟩,
 ⟨(some 12), .mv (.t 17), none⟩,
 ⟨(some 18), .ext (.t 12) 0, none⟩,
 ⟨(some 19), .ext (.t 12) 1, none⟩,
 ⟨(some 20), .ext (.t 12) 2, none⟩,
 ⟨(some 2), .mv (.t 18), none⟩,
 ⟨(some 3), .mv (.t 19), none⟩])
 k73_1

def k73_3 : ACode :=
 .seq (.seq (.region [
 ⟨(some 6), .mv (.t 0), none⟩,
 ⟨(some 7), .bin .lss (.t 6) (.c (.int .i64 1)), none⟩,
 ⟨(some 8), .mv (.t 7), none⟩,
 ⟨(some 9), .mv (.t 0), (some (8, false))⟩,
 ⟨(some 10), .bin .gtr (.t 9) (.c (.int .i64 13)), (some (8, false))⟩,
 ⟨(some 11), .pick (.t 8) (.c (.bool true)) (.t 10), none⟩])
 k73_0)
 k73_2

def c73 : ACode :=
 .seq (.region [
 ⟨(some 2), .mv (.c (.str [])), none⟩,
 ⟨(some 3), .mv (.c (.str [])), none⟩])
 (.seq (.region [
 ⟨(some 5), .bsl 1 14 [.str []] [(0, (.c (.str []))), (1, (.c (.str [109, 97, 107, 101, 32, 65, 66, 88, 89]))), (2, (.c (.str [99, 111, 112, 121, 32, 65, 66, 88]))), (3, (.c (.str [109, 105, 110, 116, 32, 65, 66, 88, 89]))), (4, (.c (.str [109, 111, 118, 101, 32, 65, 66]))), (5, (.c (.str [100, 101, 108, 101, 116, 101, 32, 65]))), (6, (.c (.str [114, 101, 118, 111, 107, 101, 32, 65]))), (7, (.c (.str [115, 101, 110, 100, 32, 65, 98, 87]))), (8, (.c (.str [114, 101, 99, 118, 32, 65, 98]))), (9, (.c (.str [114, 105, 110, 103, 32, 65]))), (10, (.c (.str [112, 111, 108, 108, 32, 65]))), (11, (.c (.str [119, 114, 105, 116, 101, 32, 65, 88, 87]))), (12, (.c (.str [114, 101, 97, 100, 32, 65, 88]))), (13, (.c (.str [116, 101, 108, 108, 32, 65])))], none⟩,
 ⟨(some 4), .mv (.t 5), none⟩])
 k73_3)
theorem ok73 : fnOk Try.prog 73 c73 23 [.t 2, .t 3] = true := by kernel_rfl

def k75_0 : ACode :=
 .seq (.region [
 ⟨(some 4), .fld 0 (.t 1), none⟩,
 ⟨(some 5), .ld none (.t 4), none⟩,
 ⟨(some 6), .len false (.t 5), none⟩,
 ⟨(some 7), .bin .geq (.t 6) (.c (.int .i64 1)), none⟩,
 ⟨(some 8), .mv (.t 7), none⟩,
 ⟨(some 9), .fld 0 (.t 1), (some (8, true))⟩,
 ⟨(some 10), .ld none (.t 9), (some (8, true))⟩,
 ⟨(some 11), .len false (.t 10), (some (8, true))⟩,
 ⟨(some 12), .bin .leq (.t 11) (.c (.int .i64 3)), (some (8, true))⟩,
 ⟨(some 13), .pick (.t 8) (.t 12) (.c (.bool false)), none⟩,
 ⟨(some 14), .mv (.t 13), none⟩,
 ⟨(some 15), .fld 0 (.t 1), (some (14, true))⟩,
 ⟨(some 16), .ld none (.t 15), (some (14, true))⟩,
 ⟨(some 17), .mv (.t 3), (some (14, true))⟩,
 ⟨(some 18), .call 99 [(.t 16), (.t 17)], (some (14, true))⟩,
 ⟨(some 19), .un .not (.t 18), (some (14, true))⟩,
 ⟨(some 20), .pick (.t 14) (.t 19) (.c (.bool false)), none⟩,
 ⟨(some 2), .mv (.t 20), none⟩])
 (.ret)

def c75 : ACode :=
 .seq (.region [
 ⟨(some 1), .box (.t 0), none⟩,
 ⟨(some 2), .mv (.c (.bool false)), none⟩])
 (.seq (.region [
 ⟨(some 3), .mv (.c (.func 98 [])), none⟩])
 k75_0)
theorem ok75 : fnOk Try.prog 75 c75 21 [.t 2] = true := by kernel_rfl

def k77_0 : ACode :=
 .seq (.region [
 ⟨(some 7), .fld 3 (.t 1), none⟩,
 ⟨(some 8), .ld none (.t 7), none⟩,
 ⟨(some 9), .call 101 [(.t 8), (.c (.int .i64 1)), (.c (.int .i64 5))], none⟩,
 ⟨(some 10), .mv (.t 9), none⟩,
 ⟨(some 11), .fld 4 (.t 1), (some (10, true))⟩,
 ⟨(some 12), .ld none (.t 11), (some (10, true))⟩,
 ⟨(some 13), .call 101 [(.t 12), (.c (.int .i64 0)), (.c (.int .i64 4096))], (some (10, true))⟩,
 ⟨(some 14), .pick (.t 10) (.t 13) (.c (.bool false)), none⟩,
 ⟨(some 2), .mv (.t 14), none⟩])
 (.ret)

def k77_1 : ACode :=
 .seq (.region [
 ⟨(some 17), .fld 3 (.t 1), none⟩,
 ⟨(some 18), .ld none (.t 17), none⟩,
 ⟨(some 19), .call 86 [(.t 18)], none⟩,
 ⟨(some 20), .mv (.t 19), none⟩,
 ⟨(some 21), .fld 4 (.t 1), (some (20, true))⟩,
 ⟨(some 22), .ld none (.t 21), (some (20, true))⟩,
 ⟨(some 23), .bin .eql (.t 22) (.c (.int .i64 0)), (some (20, true))⟩,
 ⟨(some 24), .pick (.t 20) (.t 23) (.c (.bool false)), none⟩,
 ⟨(some 2), .mv (.t 24), none⟩])
 (.ret)

def k77_2 : ACode :=
 .seq (.region [
 ⟨(some 27), .fld 3 (.t 1), none⟩,
 ⟨(some 28), .ld none (.t 27), none⟩,
 ⟨(some 29), .call 86 [(.t 28)], none⟩,
 ⟨(some 30), .mv (.t 29), none⟩,
 ⟨(some 31), .fld 4 (.t 1), (some (30, true))⟩,
 ⟨(some 32), .ld none (.t 31), (some (30, true))⟩,
 ⟨(some 33), .call 101 [(.t 32), (.c (.int .i64 1)), (.c (.int .i64 65535))], (some (30, true))⟩,
 ⟨(some 34), .pick (.t 30) (.t 33) (.c (.bool false)), none⟩,
 ⟨(some 2), .mv (.t 34), none⟩])
 (.ret)

def k77_3 : ACode :=
 .cond (.t 35)
 (.skip)
 (.region [
 ⟨(some 37), .bin .eql (.t 4) (.c (.int .i64 12)), none⟩,
 ⟨(some 35), .mv (.t 37), none⟩])

def k77_4 : ACode :=
 .seq (.region [
 ⟨(some 38), .fld 3 (.t 1), none⟩,
 ⟨(some 39), .ld none (.t 38), none⟩,
 ⟨(some 40), .call 101 [(.t 39), (.c (.int .i64 0)), (.c (.int .i64 3))], none⟩,
 ⟨(some 41), .mv (.t 40), none⟩,
 ⟨(some 42), .fld 4 (.t 1), (some (41, true))⟩,
 ⟨(some 43), .ld none (.t 42), (some (41, true))⟩,
 ⟨(some 44), .bin .eql (.t 43) (.c (.int .i64 0)), (some (41, true))⟩,
 ⟨(some 45), .pick (.t 41) (.t 44) (.c (.bool false)), none⟩,
 ⟨(some 2), .mv (.t 45), none⟩])
 (.ret)

def k77_5 : ACode :=
 .seq (.seq (.region [
 ⟨(some 36), .bin .eql (.t 4) (.c (.int .i64 11)), none⟩,
 ⟨(some 35), .mv (.t 36), none⟩])
 k77_3)
 (.cond (.t 35)
 k77_4
 (.skip))

def k77_6 : ACode :=
 .seq (.region [
 ⟨(some 26), .bin .eql (.t 4) (.c (.int .i64 3)), none⟩,
 ⟨(some 25), .mv (.t 26), none⟩])
 (.cond (.t 25)
 k77_2
 k77_5)

def k77_7 : ACode :=
 .seq (.region [
 ⟨(some 16), .bin .eql (.t 4) (.c (.int .i64 2)), none⟩,
 ⟨(some 15), .mv (.t 16), none⟩])
 (.cond (.t 15)
 k77_1
 k77_6)

def k77_8 : ACode :=
 .block 0 (
 .seq (.region [
 ⟨(some 6), .bin .eql (.t 4) (.c (.int .i64 1)), none⟩,
 ⟨(some 5), .mv (.t 6), none⟩])
 (.cond (.t 5)
 k77_0
 k77_7))

def k77_9 : ACode :=
 .seq (.region [
 ⟨(some 46), .fld 3 (.t 1), none⟩,
 ⟨(some 47), .ld none (.t 46), none⟩,
 ⟨(some 48), .bin .eql (.t 47) (.c (.int .i64 0)), none⟩,
 ⟨(some 49), .mv (.t 48), none⟩,
 ⟨(some 50), .fld 4 (.t 1), (some (49, true))⟩,
 ⟨(some 51), .ld none (.t 50), (some (49, true))⟩,
 ⟨(some 52), .bin .eql (.t 51) (.c (.int .i64 0)), (some (49, true))⟩,
 ⟨(some 53), .pick (.t 49) (.t 52) (.c (.bool false)), none⟩,
 ⟨(some 2), .mv (.t 53), none⟩])
 (.ret)

def k77_10 : ACode :=
 .seq (.seq (.region [
 ⟨(some 3), .fld 0 (.t 1), none⟩,
 ⟨(some 4), .ld none (.t 3), none⟩])
 k77_8)
 k77_9

def c77 : ACode :=
 .seq (.region [
 ⟨(some 1), .box (.t 0), none⟩,
 ⟨(some 2), .mv (.c (.bool false)), none⟩])
 k77_10
theorem ok77 : fnOk Try.prog 77 c77 54 [.t 2] = true := by kernel_rfl

def k78_0 : ACode :=
 .cond (.t 29)
 (.seq (.region [
 ⟨(some 6), .mv (.c (.int .i64 0)), none⟩,
 ⟨(some 7), .mv (.c (.int .i64 1)), none⟩])
 (.ret))
 (.skip)

def k78_1 : ACode :=
 .region [
 ⟨(some 47), .ld (some 5) (.t 3), none⟩,
 ⟨(some 48), .mv (.t 10), none⟩,
 ⟨(some 49), .call 103 [(.t 47), (.t 48)], none⟩,
 ⟨(some 46), .mv (.t 49), none⟩,
 ⟨(some 50), .ext (.t 46) 0, none⟩,
 ⟨(some 51), .ext (.t 46) 1, none⟩,
 ⟨none, .st 13 (.t 8) (.t 50), none⟩,
 ⟨(some 9), .mv (.t 51), none⟩]

def k78_2 : ACode :=
 .cond (.t 59)
 (.seq (.region [
 ⟨(some 6), .mv (.c (.int .i64 0)), none⟩,
 ⟨(some 7), .mv (.c (.int .i64 3)), none⟩])
 (.ret))
 (.skip)

def k78_3 : ACode :=
 .region [
 ⟨(some 60), .ld (some 13) (.t 8), none⟩,
 ⟨(some 61), .mv (.t 12), none⟩,
 ⟨(some 62), .call 104 [(.t 60), (.t 61)], none⟩,
 ⟨(some 10), .mv (.t 62), none⟩]

def k78_4 : ACode :=
 .seq (.seq (.region [
 ⟨(some 52), .mv (.t 9), none⟩,
 ⟨(some 53), .un .not (.t 52), none⟩,
 ⟨(some 54), .mv (.t 53), none⟩,
 ⟨(some 55), .ld (some 13) (.t 8), (some (54, false))⟩,
 ⟨(some 56), .mv (.t 12), (some (54, false))⟩,
 ⟨(some 57), .call 104 [(.t 55), (.t 56)], (some (54, false))⟩,
 ⟨(some 58), .bin .lss (.t 57) (.c (.int .i64 0)), (some (54, false))⟩,
 ⟨(some 59), .pick (.t 54) (.c (.bool true)) (.t 58), none⟩])
 k78_2)
 k78_3

def k78_5 : ACode :=
 .seq (.seq (.region [
 ⟨(some 44), .mv (.t 11), none⟩,
 ⟨(some 45), .bin .gtr (.t 44) (.c (.int .i64 0)), none⟩])
 (.cond (.t 45)
 k78_1
 (.skip)))
 k78_4

def k78_6 : ACode :=
 .seq (.block 1 (
 .seq (.region [
 ⟨(some 41), .mv (.t 39), none⟩,
 ⟨(some 42), .ixs 1 (.t 37) (.t 39), none⟩,
 ⟨(some 43), .ld none (.t 42), none⟩,
 ⟨(some 11), .mv (.t 41), none⟩,
 ⟨(some 12), .mv (.t 43), none⟩])
 k78_5))
 (.region [
 ⟨(some 63), .bin .add (.t 39) (.c (.int .i64 1)), none⟩,
 ⟨(some 39), .mv (.t 63), none⟩])

def b78_7 : ACode :=
 .seq (.region [
 ⟨(some 40), .bin .lss (.t 39) (.t 38), none⟩])
 (.seq (.cond (.t 40)
 (.skip)
 (.exit 0))
 k78_6)

def k78_8 : ACode :=
 .seq (.region [
 ⟨(some 64), .mv (.t 10), none⟩,
 ⟨(some 6), .mv (.t 64), none⟩,
 ⟨(some 7), .mv (.c (.int .i64 0)), none⟩])
 (.ret)

def k78_9 : ACode :=
 .seq (.seq (.region [
 ⟨(some 36), .fld 0 (.t 5), none⟩,
 ⟨(some 37), .ld none (.t 36), none⟩,
 ⟨(some 38), .len false (.t 37), none⟩,
 ⟨(some 39), .mv (.c (.int .i64 0)), none⟩])
 (.block 0 (
 .loop b78_7)))
 k78_8

def k78_10 : ACode :=
 .seq (.region [
 ⟨(some 30), .fld 4 (.t 3), none⟩,
 ⟨(some 31), .ld none (.t 30), none⟩,
 ⟨(some 32), .mv (.t 1), none⟩,
 ⟨(some 33), .bin .add (.c (.int .i64 2)) (.t 32), none⟩,
 ⟨(some 34), .ixs 13 (.t 31) (.t 33), none⟩,
 ⟨(some 35), .ld (some 13) (.t 34), none⟩,
 ⟨(some 8), .new [.int .i64 0, .int .i64 0, .int .i64 0, .int .i64 0, .int .i64 0, .int .i64 0, .int .i64 0, .bool false, .int .u64 0, .int .u64 0, .int .u64 0, .int .u64 0, .int .u64 0], none⟩,
 ⟨none, .st 13 (.t 8) (.t 35), none⟩,
 ⟨(some 9), .mv (.c (.bool true)), none⟩])
 (.seq (.region [
 ⟨(some 10), .mv (.c (.int .i64 0)), none⟩])
 k78_9)

def k78_11 : ACode :=
 .seq (.seq (.region [
 ⟨(some 13), .ld (some 5) (.t 3), none⟩,
 ⟨(some 14), .call 15 [(.t 13)], none⟩,
 ⟨(some 15), .un .not (.t 14), none⟩,
 ⟨(some 16), .mv (.t 15), none⟩,
 ⟨(some 17), .mv (.t 1), (some (16, false))⟩,
 ⟨(some 18), .fld 0 (.t 3), (some (16, false))⟩,
 ⟨(some 19), .fld 0 (.t 18), (some (16, false))⟩,
 ⟨(some 20), .ld none (.t 19), (some (16, false))⟩,
 ⟨(some 21), .bin .sub (.t 20) (.c (.int .i64 1)), (some (16, false))⟩,
 ⟨(some 22), .call 102 [(.t 17), (.c (.int .i64 0)), (.t 21)], (some (16, false))⟩,
 ⟨(some 23), .un .not (.t 22), (some (16, false))⟩,
 ⟨(some 24), .pick (.t 16) (.c (.bool true)) (.t 23), none⟩,
 ⟨(some 25), .mv (.t 24), none⟩,
 ⟨(some 26), .ld (some 1) (.t 5), (some (25, false))⟩,
 ⟨(some 27), .call 75 [(.t 26)], (some (25, false))⟩,
 ⟨(some 28), .un .not (.t 27), (some (25, false))⟩,
 ⟨(some 29), .pick (.t 25) (.c (.bool true)) (.t 28), none⟩])
 k78_0)
 k78_10

def c78 : ACode :=
 .seq (.region [
 ⟨(some 3), .box (.t 0), none⟩,
 ⟨(some 5), .box (.t 2), none⟩,
 ⟨(some 6), .mv (.c (.int .i64 0)), none⟩,
 ⟨(some 7), .mv (.c (.int .i64 0)), none⟩])
 k78_11
theorem ok78 : fnOk Try.prog 78 c78 65 [.t 6, .t 7] = true := by kernel_rfl

def k79_0 : ACode :=
 .seq (.region [
 ⟨(some 5), .mv (.t 0), none⟩,
 ⟨(some 6), .call 105 [(.t 5)], none⟩,
 ⟨(some 7), .mv (.t 1), none⟩,
 ⟨(some 8), .call 105 [(.t 7)], none⟩,
 ⟨(some 9), .bin .andNot (.t 6) (.t 8), none⟩,
 ⟨(some 4), .mv (.t 9), none⟩])
 (.ret)

def c79 : ACode :=
 .seq (.region [
 ⟨(some 4), .mv (.c (.int .i64 0)), none⟩])
 k79_0
theorem ok79 : fnOk Try.prog 79 c79 10 [.t 4] = true := by kernel_rfl

def k80_0 : ACode :=
 .seq (.region [
 ⟨(some 20), .mv (.t 9), none⟩,
 ⟨(some 6), .mv (.c (.int .i64 0)), none⟩,
 ⟨(some 7), .mv (.t 20), none⟩])
 (.ret)

def k80_1 : ACode :=
 .cond (.t 21)
 (.seq (.region [
 ⟨(some 6), .mv (.c (.int .i64 0)), none⟩,
 ⟨(some 7), .mv (.c (.int .i64 5)), none⟩])
 (.ret))
 (.skip)

def k80_2 : ACode :=
 .seq (.region [
 ⟨(some 22), .fld 3 (.t 3), none⟩,
 ⟨(some 23), .ld none (.t 22), none⟩,
 ⟨(some 24), .mv (.t 8), none⟩,
 ⟨(some 25), .ixs 5 (.t 23) (.t 24), none⟩,
 ⟨(some 26), .fld 0 (.t 25), none⟩,
 ⟨(some 27), .ld (some 4) (.t 26), none⟩,
 ⟨(some 28), .call 37 [(.t 27)], none⟩,
 ⟨(some 29), .un .not (.t 28), none⟩,
 ⟨(some 21), .mv (.t 29), none⟩])
 k80_1

def k80_3 : ACode :=
 .seq (.region [
 ⟨(some 30), .mv (.t 8), none⟩,
 ⟨(some 6), .mv (.t 30), none⟩,
 ⟨(some 7), .mv (.c (.int .i64 0)), none⟩])
 (.ret)

def k80_4 : ACode :=
 .seq (.block 0 (
 .seq (.region [
 ⟨(some 18), .mv (.t 9), none⟩,
 ⟨(some 19), .bin .neq (.t 18) (.c (.int .i64 0)), none⟩,
 ⟨(some 17), .mv (.t 19), none⟩])
 (.cond (.t 17)
 k80_0
 k80_2)))
 k80_3

def k80_5 : ACode :=
 .seq (.region [
 ⟨(some 11), .ld (some 5) (.t 3), none⟩,
 ⟨(some 12), .mv (.t 1), none⟩,
 ⟨(some 13), .ld (some 1) (.t 5), none⟩,
 ⟨(some 14), .call 78 [(.t 11), (.t 12), (.t 13)], none⟩,
 ⟨(some 10), .mv (.t 14), none⟩,
 ⟨(some 15), .ext (.t 10) 0, none⟩,
 ⟨(some 16), .ext (.t 10) 1, none⟩,
 ⟨(some 8), .mv (.t 15), none⟩,
 ⟨(some 9), .mv (.t 16), none⟩])
 k80_4

def c80 : ACode :=
 .seq (.region [
 ⟨(some 3), .box (.t 0), none⟩,
 ⟨(some 5), .box (.t 2), none⟩,
 ⟨(some 6), .mv (.c (.int .i64 0)), none⟩,
 ⟨(some 7), .mv (.c (.int .i64 0)), none⟩])
 k80_5
theorem ok80 : fnOk Try.prog 80 c80 31 [.t 6, .t 7] = true := by kernel_rfl

def k81_0 : ACode :=
 .region [
 ⟨(some 19), .mv (.t 1), none⟩,
 ⟨(some 20), .mv (.t 2), none⟩,
 ⟨(some 21), .fld 1 (.t 8), none⟩,
 ⟨none, .st 1 (.t 21) (.t 19), none⟩,
 ⟨(some 22), .fld 2 (.t 8), none⟩,
 ⟨none, .st 1 (.t 22) (.t 20), none⟩]

def k81_1 : ACode :=
 .cond (.t 23)
 (.skip)
 (.region [
 ⟨(some 26), .bin .eql (.t 11) (.c (.int .i64 5)), none⟩,
 ⟨(some 23), .mv (.t 26), none⟩])

def k81_2 : ACode :=
 .cond (.t 23)
 (.skip)
 (.seq (.region [
 ⟨(some 25), .bin .eql (.t 11) (.c (.int .i64 4)), none⟩,
 ⟨(some 23), .mv (.t 25), none⟩])
 k81_1)

def k81_3 : ACode :=
 .seq (.region [
 ⟨(some 12), .build [.int .i64 0, .int .i64 0, .int .i64 0, .int .i64 0, .int .i64 0, .int .i64 0, .int .i64 0, .bool false, .int .u64 0, .int .u64 0, .int .u64 0, .int .u64 0, .int .u64 0] [], none⟩,
 ⟨none, .st 13 (.t 6) (.t 12), none⟩,
 ⟨(some 7), .mv (.c (.bool false)), none⟩])
 (.ret)

def k81_4 : ACode :=
 .seq (.seq (.region [
 ⟨(some 24), .bin .eql (.t 11) (.c (.int .i64 3)), none⟩,
 ⟨(some 23), .mv (.t 24), none⟩])
 k81_2)
 (.cond (.t 23)
 (.skip)
 k81_3)

def k81_5 : ACode :=
 .seq (.region [
 ⟨(some 18), .bin .eql (.t 11) (.c (.int .i64 2)), none⟩,
 ⟨(some 17), .mv (.t 18), none⟩])
 (.cond (.t 17)
 k81_0
 k81_4)

def k81_6 : ACode :=
 .cond (.t 13)
 (.region [
 ⟨(some 15), .mv (.t 1), none⟩,
 ⟨(some 16), .fld 3 (.t 8), none⟩,
 ⟨none, .st 1 (.t 16) (.t 15), none⟩])
 k81_5

def k81_7 : ACode :=
 .block 0 (
 .seq (.region [
 ⟨(some 14), .bin .eql (.t 11) (.c (.int .i64 1)), none⟩,
 ⟨(some 13), .mv (.t 14), none⟩])
 k81_6)

def k81_8 : ACode :=
 .seq (.region [
 ⟨(some 30), .build [.int .i64 0, .int .i64 0, .int .i64 0, .int .i64 0, .int .i64 0, .int .i64 0, .int .i64 0, .bool false, .int .u64 0, .int .u64 0, .int .u64 0, .int .u64 0, .int .u64 0] [], none⟩,
 ⟨none, .st 13 (.t 6) (.t 30), none⟩,
 ⟨(some 7), .mv (.c (.bool false)), none⟩])
 (.ret)

def k81_9 : ACode :=
 .seq (.region [
 ⟨(some 31), .ld (some 13) (.t 8), none⟩,
 ⟨none, .st 13 (.t 6) (.t 31), none⟩,
 ⟨(some 7), .mv (.c (.bool true)), none⟩])
 (.ret)

def k81_10 : ACode :=
 .seq (.seq (.region [
 ⟨(some 27), .ld (some 13) (.t 8), none⟩,
 ⟨(some 28), .call 69 [(.t 27)], none⟩,
 ⟨(some 29), .un .not (.t 28), none⟩])
 (.cond (.t 29)
 k81_8
 (.skip)))
 k81_9

def k81_11 : ACode :=
 .seq (.region [
 ⟨(some 9), .mv (.t 0), none⟩,
 ⟨(some 10), .build [.int .i64 0, .int .i64 0, .int .i64 0, .int .i64 0, .int .i64 0, .int .i64 0, .int .i64 0, .bool false, .int .u64 0, .int .u64 0, .int .u64 0, .int .u64 0, .int .u64 0] [(0, 1, (.t 9))], none⟩,
 ⟨(some 8), .new [.int .i64 0, .int .i64 0, .int .i64 0, .int .i64 0, .int .i64 0, .int .i64 0, .int .i64 0, .bool false, .int .u64 0, .int .u64 0, .int .u64 0, .int .u64 0, .int .u64 0], none⟩,
 ⟨none, .st 13 (.t 8) (.t 10), none⟩])
 (.seq (.seq (.region [
 ⟨(some 11), .mv (.t 0), none⟩])
 k81_7)
 k81_10)

def c81 : ACode :=
 .seq (.region [
 ⟨(some 6), .new [.int .i64 0, .int .i64 0, .int .i64 0, .int .i64 0, .int .i64 0, .int .i64 0, .int .i64 0, .bool false, .int .u64 0, .int .u64 0, .int .u64 0, .int .u64 0, .int .u64 0], none⟩,
 ⟨(some 7), .mv (.c (.bool false)), none⟩])
 k81_11
theorem ok81 : fnOk Try.prog 81 c81 32 [.c 6 (some 13), .t 7] = true := by kernel_rfl

def k82_0 : ACode :=
 .cond (.t 18)
 (.seq (.region [
 ⟨(some 4), .mv (.c (.int .i64 0)), none⟩,
 ⟨(some 5), .mv (.c (.bool false)), none⟩])
 (.ret))
 (.skip)

def k82_1 : ACode :=
 .seq (.region [
 ⟨(some 35), .mv (.t 7), none⟩,
 ⟨(some 36), .bin .add (.t 35) (.c (.int .i64 1)), none⟩,
 ⟨(some 37), .mv (.t 6), none⟩,
 ⟨(some 38), .bin .sub (.t 36) (.t 37), none⟩,
 ⟨(some 4), .mv (.t 38), none⟩,
 ⟨(some 5), .mv (.c (.bool true)), none⟩])
 (.ret)

def k82_2 : ACode :=
 .seq (.region [
 ⟨(some 31), .mv (.t 6), none⟩,
 ⟨(some 32), .mv (.t 1), none⟩,
 ⟨(some 33), .bin .shl (.c (.int .i64 1)) (.t 32), none⟩,
 ⟨(some 34), .bin .eql (.t 31) (.t 33), none⟩])
 (.cond (.t 34)
 k82_1
 (.skip))

def k82_3 : ACode :=
 .seq (.seq (.region [
 ⟨(some 27), .ld (some 5) (.t 2), none⟩,
 ⟨(some 28), .mv (.t 7), none⟩,
 ⟨(some 29), .call 89 [(.t 27), (.t 28)], none⟩,
 ⟨(some 30), .bin .neq (.t 29) (.c (.int .i64 (-1))), none⟩])
 (.cond (.t 30)
 (.region [
 ⟨(some 6), .mv (.c (.int .i64 0)), none⟩])
 (.skip)))
 k82_2

def k82_4 : ACode :=
 .seq (.region [
 ⟨(some 25), .mv (.t 6), none⟩,
 ⟨(some 26), .bin .add (.t 25) (.c (.int .i64 1)), none⟩,
 ⟨(some 6), .mv (.t 26), none⟩])
 k82_3

def k82_5 : ACode :=
 .seq (.block 1 (
 .seq (.region [
 ⟨(some 24), .mv (.t 22), none⟩,
 ⟨(some 7), .mv (.t 24), none⟩])
 k82_4))
 (.region [
 ⟨(some 39), .bin .add (.t 22) (.c (.int .i64 1)), none⟩,
 ⟨(some 22), .mv (.t 39), none⟩])

def b82_6 : ACode :=
 .seq (.region [
 ⟨(some 23), .bin .lss (.t 22) (.t 21), none⟩])
 (.seq (.cond (.t 23)
 (.skip)
 (.exit 0))
 k82_5)

def k82_7 : ACode :=
 .seq (.seq (.region [
 ⟨(some 19), .fld 3 (.t 2), none⟩,
 ⟨(some 20), .ld none (.t 19), none⟩,
 ⟨(some 21), .len false (.t 20), none⟩,
 ⟨(some 22), .mv (.c (.int .i64 0)), none⟩])
 (.block 0 (
 .loop b82_6)))
 (.seq (.region [
 ⟨(some 4), .mv (.c (.int .i64 0)), none⟩,
 ⟨(some 5), .mv (.c (.bool false)), none⟩])
 (.ret))

def k82_8 : ACode :=
 .seq (.seq (.region [
 ⟨(some 8), .ld (some 5) (.t 2), none⟩,
 ⟨(some 9), .call 15 [(.t 8)], none⟩,
 ⟨(some 10), .un .not (.t 9), none⟩,
 ⟨(some 11), .mv (.t 10), none⟩,
 ⟨(some 12), .mv (.t 1), (some (11, false))⟩,
 ⟨(some 13), .bin .lss (.t 12) (.c (.int .i64 1)), (some (11, false))⟩,
 ⟨(some 14), .pick (.t 11) (.c (.bool true)) (.t 13), none⟩,
 ⟨(some 15), .mv (.t 14), none⟩,
 ⟨(some 16), .mv (.t 1), (some (15, false))⟩,
 ⟨(some 17), .bin .gtr (.t 16) (.c (.int .i64 4)), (some (15, false))⟩,
 ⟨(some 18), .pick (.t 15) (.c (.bool true)) (.t 17), none⟩])
 k82_0)
 (.seq (.region [
 ⟨(some 6), .mv (.c (.int .i64 0)), none⟩])
 k82_7)

def c82 : ACode :=
 .seq (.region [
 ⟨(some 2), .box (.t 0), none⟩,
 ⟨(some 4), .mv (.c (.int .i64 0)), none⟩,
 ⟨(some 5), .mv (.c (.bool false)), none⟩])
 k82_8
theorem ok82 : fnOk Try.prog 82 c82 40 [.t 4, .t 5] = true := by kernel_rfl

def k83_0 : ACode :=
 .seq (.region [
 ⟨(some 5), .ld (some 1) (.t 2), none⟩,
 ⟨(some 6), .call 27 [(.t 5)], none⟩,
 ⟨(some 7), .mv (.t 6), none⟩,
 ⟨(some 8), .ld (some 1) (.t 2), (some (7, true))⟩,
 ⟨(some 9), .mv (.t 1), (some (7, true))⟩,
 ⟨(some 10), .call 60 [(.t 8), (.t 9)], (some (7, true))⟩,
 ⟨(some 11), .pick (.t 7) (.t 10) (.c (.bool false)), none⟩,
 ⟨(some 4), .mv (.t 11), none⟩])
 (.ret)

def c83 : ACode :=
 .seq (.region [
 ⟨(some 2), .box (.t 0), none⟩,
 ⟨(some 4), .mv (.c (.bool false)), none⟩])
 k83_0
theorem ok83 : fnOk Try.prog 83 c83 12 [.t 4] = true := by kernel_rfl

def k84_0 : ACode :=
 .region [
 ⟨(some 19), .mv (.t 5), none⟩,
 ⟨(some 20), .mv (.t 6), none⟩,
 ⟨(some 21), .bsl 1 1 [.int .i64 0] [(0, (.t 20))], none⟩,
 ⟨(some 22), .app 1 8 (.t 19) (.t 21), none⟩,
 ⟨(some 5), .mv (.t 22), none⟩]

def k84_1 : ACode :=
 .seq (.region [
 ⟨(some 16), .mv (.t 7), none⟩,
 ⟨(some 17), .mv (.t 1), none⟩,
 ⟨(some 18), .bin .eql (.t 16) (.t 17), none⟩])
 (.cond (.t 18)
 k84_0
 (.skip))

def k84_2 : ACode :=
 .seq (.block 1 (
 .seq (.region [
 ⟨(some 13), .mv (.t 11), none⟩,
 ⟨(some 14), .ixs 1 (.t 9) (.t 11), none⟩,
 ⟨(some 15), .ld none (.t 14), none⟩,
 ⟨(some 6), .mv (.t 13), none⟩,
 ⟨(some 7), .mv (.t 15), none⟩])
 k84_1))
 (.region [
 ⟨(some 23), .bin .add (.t 11) (.c (.int .i64 1)), none⟩,
 ⟨(some 11), .mv (.t 23), none⟩])

def b84_3 : ACode :=
 .seq (.region [
 ⟨(some 12), .bin .lss (.t 11) (.t 10), none⟩])
 (.seq (.cond (.t 12)
 (.skip)
 (.exit 0))
 k84_2)

def k84_4 : ACode :=
 .seq (.seq (.region [
 ⟨(some 8), .fld 0 (.t 2), none⟩,
 ⟨(some 9), .ld none (.t 8), none⟩,
 ⟨(some 10), .len false (.t 9), none⟩,
 ⟨(some 11), .mv (.c (.int .i64 0)), none⟩])
 (.block 0 (
 .loop b84_3)))
 (.seq (.region [
 ⟨(some 24), .mv (.t 5), none⟩,
 ⟨(some 4), .mv (.t 24), none⟩])
 (.ret))

def c84 : ACode :=
 .seq (.region [
 ⟨(some 2), .box (.t 0), none⟩,
 ⟨(some 4), .mv (.c (.lit (.slice none 0 0))), none⟩])
 (.seq (.region [
 ⟨(some 5), .mv (.c (.lit (.slice none 0 0))), none⟩])
 k84_4)
theorem ok84 : fnOk Try.prog 84 c84 25 [.t 4] = true := by kernel_rfl

def k85_0 : ACode :=
 .seq (.region [
 ⟨(some 7), .mv (.t 0), none⟩,
 ⟨(some 8), .mv (.t 1), none⟩,
 ⟨(some 9), .bin .geq (.t 7) (.t 8), none⟩,
 ⟨(some 10), .mv (.t 9), none⟩,
 ⟨(some 11), .mv (.t 0), (some (10, true))⟩,
 ⟨(some 12), .mv (.t 2), (some (10, true))⟩,
 ⟨(some 13), .bin .leq (.t 11) (.t 12), (some (10, true))⟩,
 ⟨(some 14), .pick (.t 10) (.t 13) (.c (.bool false)), none⟩,
 ⟨(some 6), .mv (.t 14), none⟩])
 (.ret)

def c85 : ACode :=
 .seq (.region [
 ⟨(some 6), .mv (.c (.bool false)), none⟩])
 k85_0
theorem ok85 : fnOk Try.prog 85 c85 15 [.t 6] = true := by kernel_rfl

def k86_0 : ACode :=
 .seq (.region [
 ⟨(some 3), .mv (.t 0), none⟩,
 ⟨(some 4), .bin .geq (.t 3) (.c (.int .i64 0)), none⟩,
 ⟨(some 5), .mv (.t 4), none⟩,
 ⟨(some 6), .mv (.t 0), (some (5, true))⟩,
 ⟨(some 7), .bin .leq (.t 6) (.c (.int .i64 7)), (some (5, true))⟩,
 ⟨(some 8), .pick (.t 5) (.t 7) (.c (.bool false)), none⟩,
 ⟨(some 2), .mv (.t 8), none⟩])
 (.ret)

def c86 : ACode :=
 .seq (.region [
 ⟨(some 2), .mv (.c (.bool false)), none⟩])
 k86_0
theorem ok86 : fnOk Try.prog 86 c86 9 [.t 2] = true := by kernel_rfl

def k87_0 : ACode :=
 .seq (.region [
 ⟨(some 3), .mv (.t 0), none⟩,
 ⟨(some 4), .bin .geq (.t 3) (.c (.int .i64 0)), none⟩,
 ⟨(some 5), .mv (.t 4), none⟩,
 ⟨(some 6), .mv (.t 0), (some (5, true))⟩,
 ⟨(some 7), .bin .leq (.t 6) (.c (.int .i64 65535)), (some (5, true))⟩,
 ⟨(some 8), .pick (.t 5) (.t 7) (.c (.bool false)), none⟩,
 ⟨(some 2), .mv (.t 8), none⟩])
 (.ret)

def c87 : ACode :=
 .seq (.region [
 ⟨(some 2), .mv (.c (.bool false)), none⟩])
 k87_0
theorem ok87 : fnOk Try.prog 87 c87 9 [.t 2] = true := by kernel_rfl

def k88_0 : ACode :=
 .seq (.region [
 ⟨(some 3), .mv (.t 0), none⟩,
 ⟨(some 4), .bin .eql (.t 3) (.c (.int .i64 3)), none⟩,
 ⟨(some 5), .mv (.t 4), none⟩,
 ⟨(some 6), .mv (.t 0), (some (5, false))⟩,
 ⟨(some 7), .bin .eql (.t 6) (.c (.int .i64 4)), (some (5, false))⟩,
 ⟨(some 8), .pick (.t 5) (.c (.bool true)) (.t 7), none⟩,
 ⟨(some 2), .mv (.t 8), none⟩])
 (.ret)

def c88 : ACode :=
 .seq (.region [
 ⟨(some 2), .mv (.c (.bool false)), none⟩])
 k88_0
theorem ok88 : fnOk Try.prog 88 c88 9 [.t 2] = true := by kernel_rfl

def k89_0 : ACode :=
 .seq (.region [
 ⟨(some 5), .fld 4 (.t 2), none⟩,
 ⟨(some 6), .ld none (.t 5), none⟩,
 ⟨(some 7), .mkf 106 [(.t 3)], none⟩,
 ⟨(some 8), .call 61 [(.t 6), (.t 7)], none⟩,
 ⟨(some 4), .mv (.t 8), none⟩])
 (.ret)

def c89 : ACode :=
 .seq (.region [
 ⟨(some 2), .box (.t 0), none⟩,
 ⟨(some 3), .box (.t 1), none⟩,
 ⟨(some 4), .mv (.c (.int .i64 0)), none⟩])
 k89_0
theorem ok89 : fnOk Try.prog 89 c89 9 [.t 4] = true := by kernel_rfl

def k90_0 : ACode :=
 .seq (.region [
 ⟨(some 7), .ld (some 5) (.t 3), none⟩,
 ⟨(some 8), .call 15 [(.t 7)], none⟩,
 ⟨(some 9), .mv (.t 8), none⟩,
 ⟨(some 10), .mv (.t 2), (some (9, true))⟩,
 ⟨(some 11), .bin .geq (.t 10) (.c (.int .i64 0)), (some (9, true))⟩,
 ⟨(some 12), .pick (.t 9) (.t 11) (.c (.bool false)), none⟩,
 ⟨(some 13), .mv (.t 12), none⟩,
 ⟨(some 14), .mv (.t 2), (some (13, true))⟩,
 ⟨(some 15), .fld 3 (.t 3), (some (13, true))⟩,
 ⟨(some 16), .ld none (.t 15), (some (13, true))⟩,
 ⟨(some 17), .len false (.t 16), (some (13, true))⟩,
 ⟨(some 18), .bin .lss (.t 14) (.t 17), (some (13, true))⟩,
 ⟨(some 19), .pick (.t 13) (.t 18) (.c (.bool false)), none⟩,
 ⟨(some 20), .mv (.t 19), none⟩,
 ⟨(some 21), .ld (some 5) (.t 3), (some (20, true))⟩,
 ⟨(some 22), .mv (.t 1), (some (20, true))⟩,
 ⟨(some 23), .mv (.t 2), (some (20, true))⟩,
 ⟨(some 24), .call 72 [(.t 21), (.t 22), (.t 23)], (some (20, true))⟩,
 ⟨(some 25), .pick (.t 20) (.t 24) (.c (.bool false)), none⟩,
 ⟨(some 6), .mv (.t 25), none⟩])
 (.ret)

def c90 : ACode :=
 .seq (.region [
 ⟨(some 3), .box (.t 0), none⟩,
 ⟨(some 6), .mv (.c (.bool false)), none⟩])
 k90_0
theorem ok90 : fnOk Try.prog 90 c90 26 [.t 6] = true := by kernel_rfl

def k91_0 : ACode :=
 .cond (.t 7)
 (.seq (.region [
 ⟨(some 8), .build [.int .i64 0, .int .i64 0, .int .i64 0, .int .i64 0] [], none⟩,
 ⟨none, .st 4 (.t 4) (.t 8), none⟩])
 (.ret))
 (.skip)

def k91_1 : ACode :=
 .seq (.region [
 ⟨(some 9), .fld 2 (.t 2), none⟩,
 ⟨(some 10), .ld none (.t 9), none⟩,
 ⟨(some 11), .mv (.t 1), none⟩,
 ⟨(some 12), .call 108 [(.t 10), (.t 11)], none⟩,
 ⟨(some 13), .fld 2 (.t 2), none⟩,
 ⟨none, .st 1 (.t 13) (.t 12), none⟩])
 (.seq (.region [
 ⟨(some 14), .ld (some 4) (.t 2), none⟩,
 ⟨none, .st 4 (.t 4) (.t 14), none⟩])
 (.ret))

def k91_2 : ACode :=
 .seq (.seq (.region [
 ⟨(some 5), .ld (some 4) (.t 2), none⟩,
 ⟨(some 6), .call 63 [(.t 5)], none⟩,
 ⟨(some 7), .un .not (.t 6), none⟩])
 k91_0)
 k91_1

def c91 : ACode :=
 .seq (.region [
 ⟨(some 2), .box (.t 0), none⟩,
 ⟨(some 4), .new [.int .i64 0, .int .i64 0, .int .i64 0, .int .i64 0], none⟩])
 k91_2
theorem ok91 : fnOk Try.prog 91 c91 15 [.c 4 (some 4)] = true := by kernel_rfl

def k92_0 : ACode :=
 .cond (.t 6)
 (.skip)
 (.region [
 ⟨(some 13), .mv (.t 1), none⟩,
 ⟨(some 14), .bin .eql (.t 13) (.c (.int .i64 0)), none⟩,
 ⟨(some 6), .mv (.t 14), none⟩])

def k92_1 : ACode :=
 .seq (.region [
 ⟨(some 10), .mv (.t 1), none⟩,
 ⟨(some 11), .call 87 [(.t 10)], none⟩,
 ⟨(some 12), .un .not (.t 11), none⟩,
 ⟨(some 6), .mv (.t 12), none⟩])
 k92_0

def k92_2 : ACode :=
 .seq (.region [
 ⟨(some 15), .build [.int .i64 0, .int .i64 0, .int .i64 0, .int .i64 0] [], none⟩,
 ⟨none, .st 4 (.t 4) (.t 15), none⟩,
 ⟨(some 5), .mv (.c (.int .i64 1)), none⟩])
 (.ret)

def k92_3 : ACode :=
 .seq (.region [
 ⟨(some 21), .build [.int .i64 0, .int .i64 0, .int .i64 0, .int .i64 0] [], none⟩,
 ⟨none, .st 4 (.t 4) (.t 21), none⟩,
 ⟨(some 5), .mv (.c (.int .i64 7)), none⟩])
 (.ret)

def k92_4 : ACode :=
 .seq (.region [
 ⟨(some 26), .build [.int .i64 0, .int .i64 0, .int .i64 0, .int .i64 0] [], none⟩,
 ⟨none, .st 4 (.t 4) (.t 26), none⟩,
 ⟨(some 5), .mv (.c (.int .i64 5)), none⟩])
 (.ret)

def k92_5 : ACode :=
 .seq (.region [
 ⟨(some 23), .fld 3 (.t 2), none⟩,
 ⟨(some 24), .ld none (.t 23), none⟩,
 ⟨(some 25), .bin .neq (.t 24) (.c (.int .i64 0)), none⟩,
 ⟨(some 22), .mv (.t 25), none⟩])
 (.cond (.t 22)
 k92_4
 (.skip))

def k92_6 : ACode :=
 .seq (.region [
 ⟨(some 17), .fld 0 (.t 2), none⟩,
 ⟨(some 18), .ld none (.t 17), none⟩,
 ⟨(some 19), .call 88 [(.t 18)], none⟩,
 ⟨(some 20), .un .not (.t 19), none⟩,
 ⟨(some 16), .mv (.t 20), none⟩])
 (.cond (.t 16)
 k92_3
 k92_5)

def k92_7 : ACode :=
 .seq (.region [
 ⟨(some 29), .ld (some 4) (.t 2), none⟩,
 ⟨none, .st 4 (.t 4) (.t 29), none⟩,
 ⟨(some 5), .mv (.c (.int .i64 0)), none⟩])
 (.ret)

def k92_8 : ACode :=
 .seq (.region [
 ⟨(some 27), .mv (.t 1), none⟩,
 ⟨(some 28), .fld 3 (.t 2), none⟩,
 ⟨none, .st 1 (.t 28) (.t 27), none⟩])
 k92_7

def k92_9 : ACode :=
 .seq (.block 0 (
 .seq (.seq (.region [
 ⟨(some 7), .ld (some 4) (.t 2), none⟩,
 ⟨(some 8), .call 63 [(.t 7)], none⟩,
 ⟨(some 9), .un .not (.t 8), none⟩,
 ⟨(some 6), .mv (.t 9), none⟩])
 (.cond (.t 6)
 (.skip)
 k92_1))
 (.cond (.t 6)
 k92_2
 k92_6)))
 k92_8

def c92 : ACode :=
 .seq (.region [
 ⟨(some 2), .box (.t 0), none⟩,
 ⟨(some 4), .new [.int .i64 0, .int .i64 0, .int .i64 0, .int .i64 0], none⟩,
 ⟨(some 5), .mv (.c (.int .i64 0)), none⟩])
 k92_9
theorem ok92 : fnOk Try.prog 92 c92 30 [.c 4 (some 4), .t 5] = true := by kernel_rfl

def k94_0 : ACode :=
 .seq (.region [
 ⟨(some 7), .fld 0 (.t 1), none⟩,
 ⟨(some 8), .ld none (.t 7), none⟩,
 ⟨(some 9), .fld 3 (.t 1), none⟩,
 ⟨(some 10), .ld none (.t 9), none⟩,
 ⟨(some 11), .fld 4 (.t 1), none⟩,
 ⟨(some 12), .ld none (.t 11), none⟩,
 ⟨(some 13), .build [.int .i64 0, .int .i64 0, .int .i64 0, .int .i64 0, .int .i64 0, .int .i64 0, .int .i64 0, .bool false, .int .u64 0, .int .u64 0, .int .u64 0, .int .u64 0, .int .u64 0] [(0, 1, (.t 8)), (3, 1, (.t 10)), (4, 1, (.t 12))], none⟩,
 ⟨none, .st 13 (.t 2) (.t 13), none⟩])
 (.ret)

def k94_1 : ACode :=
 .seq (.region [
 ⟨(some 16), .fld 0 (.t 1), none⟩,
 ⟨(some 17), .ld none (.t 16), none⟩,
 ⟨(some 18), .fld 1 (.t 1), none⟩,
 ⟨(some 19), .ld none (.t 18), none⟩,
 ⟨(some 20), .fld 2 (.t 1), none⟩,
 ⟨(some 21), .ld none (.t 20), none⟩,
 ⟨(some 22), .build [.int .i64 0, .int .i64 0, .int .i64 0, .int .i64 0, .int .i64 0, .int .i64 0, .int .i64 0, .bool false, .int .u64 0, .int .u64 0, .int .u64 0, .int .u64 0, .int .u64 0] [(0, 1, (.t 17)), (1, 1, (.t 19)), (2, 1, (.t 21))], none⟩,
 ⟨none, .st 13 (.t 2) (.t 22), none⟩])
 (.ret)

def k94_2 : ACode :=
 .seq (.region [
 ⟨(some 28), .fld 0 (.t 1), none⟩,
 ⟨(some 29), .ld none (.t 28), none⟩,
 ⟨(some 30), .build [.int .i64 0, .int .i64 0, .int .i64 0, .int .i64 0, .int .i64 0, .int .i64 0, .int .i64 0, .bool false, .int .u64 0, .int .u64 0, .int .u64 0, .int .u64 0, .int .u64 0] [(0, 1, (.t 29))], none⟩,
 ⟨none, .st 13 (.t 2) (.t 30), none⟩])
 (.ret)

def k94_3 : ACode :=
 .seq (.region [
 ⟨(some 31), .fld 0 (.t 1), none⟩,
 ⟨(some 32), .ld none (.t 31), none⟩,
 ⟨(some 33), .fld 8 (.t 1), none⟩,
 ⟨(some 34), .ld none (.t 33), none⟩,
 ⟨(some 35), .fld 6 (.t 1), none⟩,
 ⟨(some 36), .ld none (.t 35), none⟩,
 ⟨(some 37), .fld 5 (.t 1), none⟩,
 ⟨(some 38), .ld none (.t 37), none⟩,
 ⟨(some 39), .build [.int .i64 0, .int .i64 0, .int .i64 0, .int .i64 0, .int .i64 0, .int .i64 0, .int .i64 0, .bool false, .int .u64 0, .int .u64 0, .int .u64 0, .int .u64 0, .int .u64 0] [(0, 1, (.t 32)), (7, 1, (.c (.bool true))), (8, 1, (.t 34)), (6, 1, (.t 36)), (5, 1, (.t 38))], none⟩,
 ⟨none, .st 13 (.t 2) (.t 39), none⟩])
 (.ret)

def k94_4 : ACode :=
 .seq (.seq (.region [
 ⟨(some 25), .fld 7 (.t 1), none⟩,
 ⟨(some 26), .ld none (.t 25), none⟩,
 ⟨(some 27), .un .not (.t 26), none⟩])
 (.cond (.t 27)
 k94_2
 (.skip)))
 k94_3

def k94_5 : ACode :=
 .seq (.region [
 ⟨(some 42), .fld 0 (.t 1), none⟩,
 ⟨(some 43), .ld none (.t 42), none⟩,
 ⟨(some 44), .fld 8 (.t 1), none⟩,
 ⟨(some 45), .ld none (.t 44), none⟩,
 ⟨(some 46), .build [.int .i64 0, .int .i64 0, .int .i64 0, .int .i64 0, .int .i64 0, .int .i64 0, .int .i64 0, .bool false, .int .u64 0, .int .u64 0, .int .u64 0, .int .u64 0, .int .u64 0] [(0, 1, (.t 43)), (8, 1, (.t 45))], none⟩,
 ⟨none, .st 13 (.t 2) (.t 46), none⟩])
 (.ret)

def k94_6 : ACode :=
 .seq (.region [
 ⟨(some 49), .fld 0 (.t 1), none⟩,
 ⟨(some 50), .ld none (.t 49), none⟩,
 ⟨(some 51), .fld 9 (.t 1), none⟩,
 ⟨(some 52), .ld (some 4) (.t 51), none⟩,
 ⟨(some 53), .build [.int .i64 0, .int .i64 0, .int .i64 0, .int .i64 0, .int .i64 0, .int .i64 0, .int .i64 0, .bool false, .int .u64 0, .int .u64 0, .int .u64 0, .int .u64 0, .int .u64 0] [(0, 1, (.t 50)), (9, 4, (.t 52))], none⟩,
 ⟨none, .st 13 (.t 2) (.t 53), none⟩])
 (.ret)

def k94_7 : ACode :=
 .seq (.region [
 ⟨(some 48), .bin .eql (.t 4) (.c (.int .i64 5)), none⟩,
 ⟨(some 47), .mv (.t 48), none⟩])
 (.cond (.t 47)
 k94_6
 (.skip))

def k94_8 : ACode :=
 .seq (.region [
 ⟨(some 41), .bin .eql (.t 4) (.c (.int .i64 4)), none⟩,
 ⟨(some 40), .mv (.t 41), none⟩])
 (.cond (.t 40)
 k94_5
 k94_7)

def k94_9 : ACode :=
 .seq (.region [
 ⟨(some 24), .bin .eql (.t 4) (.c (.int .i64 3)), none⟩,
 ⟨(some 23), .mv (.t 24), none⟩])
 (.cond (.t 23)
 k94_4
 k94_8)

def k94_10 : ACode :=
 .seq (.region [
 ⟨(some 15), .bin .eql (.t 4) (.c (.int .i64 2)), none⟩,
 ⟨(some 14), .mv (.t 15), none⟩])
 (.cond (.t 14)
 k94_1
 k94_9)

def k94_11 : ACode :=
 .block 0 (
 .seq (.region [
 ⟨(some 6), .bin .eql (.t 4) (.c (.int .i64 1)), none⟩,
 ⟨(some 5), .mv (.t 6), none⟩])
 (.cond (.t 5)
 k94_0
 k94_10))

def k94_12 : ACode :=
 .seq (.seq (.region [
 ⟨(some 3), .fld 0 (.t 1), none⟩,
 ⟨(some 4), .ld none (.t 3), none⟩])
 k94_11)
 (.seq (.region [
 ⟨(some 54), .build [.int .i64 0, .int .i64 0, .int .i64 0, .int .i64 0, .int .i64 0, .int .i64 0, .int .i64 0, .bool false, .int .u64 0, .int .u64 0, .int .u64 0, .int .u64 0, .int .u64 0] [], none⟩,
 ⟨none, .st 13 (.t 2) (.t 54), none⟩])
 (.ret))

def c94 : ACode :=
 .seq (.region [
 ⟨(some 1), .box (.t 0), none⟩,
 ⟨(some 2), .new [.int .i64 0, .int .i64 0, .int .i64 0, .int .i64 0, .int .i64 0, .int .i64 0, .int .i64 0, .bool false, .int .u64 0, .int .u64 0, .int .u64 0, .int .u64 0, .int .u64 0], none⟩])
 k94_12
theorem ok94 : fnOk Try.prog 94 c94 55 [.c 2 (some 13)] = true := by kernel_rfl

def k95_0 : ACode :=
 .region [
 ⟨(some 41), .ld (some 5) (.t 3), none⟩,
 ⟨(some 42), .fld 0 (.t 7), none⟩,
 ⟨(some 43), .fld 1 (.t 42), none⟩,
 ⟨(some 44), .ld none (.t 43), none⟩,
 ⟨(some 45), .mv (.t 2), none⟩,
 ⟨(some 46), .call 95 [(.t 41), (.t 44), (.t 45)], none⟩]

def k95_1 : ACode :=
 .seq (.region [
 ⟨(some 21), .fld 0 (.t 7), none⟩,
 ⟨(some 22), .fld 0 (.t 21), none⟩,
 ⟨(some 23), .ld none (.t 22), none⟩,
 ⟨(some 24), .bin .eql (.t 23) (.c (.int .i64 2)), none⟩,
 ⟨(some 25), .mv (.t 24), none⟩,
 ⟨(some 26), .fld 4 (.t 3), (some (25, true))⟩,
 ⟨(some 27), .ld none (.t 26), (some (25, true))⟩,
 ⟨(some 28), .mv (.t 1), (some (25, true))⟩,
 ⟨(some 29), .ixs 13 (.t 27) (.t 28), (some (25, true))⟩,
 ⟨(some 30), .ld (some 13) (.t 29), (some (25, true))⟩,
 ⟨(some 31), .mv (.t 6), (some (25, true))⟩,
 ⟨(some 32), .call 107 [(.t 30), (.t 31)], (some (25, true))⟩,
 ⟨(some 33), .pick (.t 25) (.t 32) (.c (.bool false)), none⟩,
 ⟨(some 34), .mv (.t 33), none⟩,
 ⟨(some 35), .ld (some 5) (.t 3), (some (34, true))⟩,
 ⟨(some 36), .fld 0 (.t 7), (some (34, true))⟩,
 ⟨(some 37), .fld 1 (.t 36), (some (34, true))⟩,
 ⟨(some 38), .ld none (.t 37), (some (34, true))⟩,
 ⟨(some 39), .call 68 [(.t 35), (.t 38)], (some (34, true))⟩,
 ⟨(some 40), .pick (.t 34) (.t 39) (.c (.bool false)), none⟩])
 (.cond (.t 40)
 k95_0
 (.skip))

def k95_2 : ACode :=
 .seq (.block 1 (
 .seq (.region [
 ⟨(some 18), .mv (.t 16), none⟩,
 ⟨(some 19), .ixs 5 (.t 14) (.t 16), none⟩,
 ⟨(some 20), .ld (some 5) (.t 19), none⟩,
 ⟨(some 7), .new [.int .i64 0, .int .i64 0, .int .i64 0, .int .i64 0, .int .i64 0], none⟩,
 ⟨(some 6), .mv (.t 18), none⟩,
 ⟨none, .st 5 (.t 7) (.t 20), none⟩])
 k95_1))
 (.region [
 ⟨(some 47), .bin .add (.t 16) (.c (.int .i64 1)), none⟩,
 ⟨(some 16), .mv (.t 47), none⟩])

def b95_3 : ACode :=
 .seq (.region [
 ⟨(some 17), .bin .lss (.t 16) (.t 15), none⟩])
 (.seq (.cond (.t 17)
 (.skip)
 (.exit 0))
 k95_2)

def k95_4 : ACode :=
 .seq (.region [
 ⟨(some 13), .fld 3 (.t 3), none⟩,
 ⟨(some 14), .ld none (.t 13), none⟩,
 ⟨(some 15), .len false (.t 14), none⟩,
 ⟨(some 16), .mv (.c (.int .i64 0)), none⟩])
 (.block 0 (
 .loop b95_3))

def k95_5 : ACode :=
 .seq (.region [
 ⟨(some 11), .mv (.t 2), none⟩,
 ⟨(some 12), .mv (.t 1), none⟩,
 ⟨none, .mup (.t 11) (.t 12) (.c (.bool true)), none⟩])
 k95_4

def k95_6 : ACode :=
 .seq (.seq (.region [
 ⟨(some 8), .mv (.t 2), none⟩,
 ⟨(some 9), .mv (.t 1), none⟩,
 ⟨(some 10), .mlk (.bool false) (.t 8) (.t 9), none⟩])
 (.cond (.t 10)
 (.ret)
 (.skip)))
 k95_5

def c95 : ACode :=
 .seq (.region [
 ⟨(some 3), .box (.t 0), none⟩])
 k95_6
theorem ok95 : fnOk Try.prog 95 c95 48 [] = true := by kernel_rfl

def k98_0 : ACode :=
 .seq (.region [
 ⟨(some 3), .mv (.t 0), none⟩,
 ⟨(some 4), .bin .lss (.t 3) (.c (.int .i64 0)), none⟩,
 ⟨(some 5), .mv (.t 4), none⟩,
 ⟨(some 6), .mv (.t 0), (some (5, false))⟩,
 ⟨(some 7), .bin .gtr (.t 6) (.c (.int .i64 15)), (some (5, false))⟩,
 ⟨(some 8), .pick (.t 5) (.c (.bool true)) (.t 7), none⟩,
 ⟨(some 2), .mv (.t 8), none⟩])
 (.ret)

def c98 : ACode :=
 .seq (.region [
 ⟨(some 2), .mv (.c (.bool false)), none⟩])
 k98_0
theorem ok98 : fnOk Try.prog 98 c98 9 [.t 2] = true := by kernel_rfl

def k101_0 : ACode :=
 .seq (.region [
 ⟨(some 7), .mv (.t 0), none⟩,
 ⟨(some 8), .mv (.t 1), none⟩,
 ⟨(some 9), .bin .geq (.t 7) (.t 8), none⟩,
 ⟨(some 10), .mv (.t 9), none⟩,
 ⟨(some 11), .mv (.t 0), (some (10, true))⟩,
 ⟨(some 12), .mv (.t 2), (some (10, true))⟩,
 ⟨(some 13), .bin .leq (.t 11) (.t 12), (some (10, true))⟩,
 ⟨(some 14), .pick (.t 10) (.t 13) (.c (.bool false)), none⟩,
 ⟨(some 6), .mv (.t 14), none⟩])
 (.ret)

def c101 : ACode :=
 .seq (.region [
 ⟨(some 6), .mv (.c (.bool false)), none⟩])
 k101_0
theorem ok101 : fnOk Try.prog 101 c101 15 [.t 6] = true := by kernel_rfl

def k102_0 : ACode :=
 .seq (.region [
 ⟨(some 7), .mv (.t 0), none⟩,
 ⟨(some 8), .mv (.t 1), none⟩,
 ⟨(some 9), .bin .geq (.t 7) (.t 8), none⟩,
 ⟨(some 10), .mv (.t 9), none⟩,
 ⟨(some 11), .mv (.t 0), (some (10, true))⟩,
 ⟨(some 12), .mv (.t 2), (some (10, true))⟩,
 ⟨(some 13), .bin .leq (.t 11) (.t 12), (some (10, true))⟩,
 ⟨(some 14), .pick (.t 10) (.t 13) (.c (.bool false)), none⟩,
 ⟨(some 6), .mv (.t 14), none⟩])
 (.ret)

def c102 : ACode :=
 .seq (.region [
 ⟨(some 6), .mv (.c (.bool false)), none⟩])
 k102_0
theorem ok102 : fnOk Try.prog 102 c102 15 [.t 6] = true := by kernel_rfl

def k103_0 : ACode :=
 .seq (.region [
 ⟨(some 22), .build [.int .i64 0, .int .i64 0, .int .i64 0, .int .i64 0, .int .i64 0, .int .i64 0, .int .i64 0, .bool false, .int .u64 0, .int .u64 0, .int .u64 0, .int .u64 0, .int .u64 0] [], none⟩,
 ⟨none, .st 13 (.t 4) (.t 22), none⟩,
 ⟨(some 5), .mv (.c (.bool false)), none⟩])
 (.ret)

def k103_1 : ACode :=
 .seq (.region [
 ⟨(some 23), .fld 4 (.t 2), none⟩,
 ⟨(some 24), .ld none (.t 23), none⟩,
 ⟨(some 25), .fld 1 (.t 6), none⟩,
 ⟨(some 26), .ld none (.t 25), none⟩,
 ⟨(some 27), .ixs 13 (.t 24) (.t 26), none⟩,
 ⟨(some 28), .ld (some 13) (.t 27), none⟩,
 ⟨none, .st 13 (.t 4) (.t 28), none⟩,
 ⟨(some 5), .mv (.c (.bool true)), none⟩])
 (.ret)

def k103_2 : ACode :=
 .seq (.seq (.region [
 ⟨(some 13), .fld 0 (.t 6), none⟩,
 ⟨(some 14), .ld none (.t 13), none⟩,
 ⟨(some 15), .bin .neq (.t 14) (.c (.int .i64 2)), none⟩,
 ⟨(some 16), .mv (.t 15), none⟩,
 ⟨(some 17), .fld 2 (.t 6), (some (16, false))⟩,
 ⟨(some 18), .ld none (.t 17), (some (16, false))⟩,
 ⟨(some 19), .call 48 [(.c (.int .i64 1)), (.t 18)], (some (16, false))⟩,
 ⟨(some 20), .un .not (.t 19), (some (16, false))⟩,
 ⟨(some 21), .pick (.t 16) (.c (.bool true)) (.t 20), none⟩])
 (.cond (.t 21)
 k103_0
 (.skip)))
 k103_1

def k103_3 : ACode :=
 .seq (.region [
 ⟨(some 7), .fld 3 (.t 2), none⟩,
 ⟨(some 8), .ld none (.t 7), none⟩,
 ⟨(some 9), .mv (.t 1), none⟩,
 ⟨(some 10), .ixs 5 (.t 8) (.t 9), none⟩,
 ⟨(some 11), .fld 0 (.t 10), none⟩,
 ⟨(some 12), .ld (some 4) (.t 11), none⟩,
 ⟨(some 6), .new [.int .i64 0, .int .i64 0, .int .i64 0, .int .i64 0], none⟩,
 ⟨none, .st 4 (.t 6) (.t 12), none⟩])
 k103_2

def c103 : ACode :=
 .seq (.region [
 ⟨(some 2), .box (.t 0), none⟩,
 ⟨(some 4), .new [.int .i64 0, .int .i64 0, .int .i64 0, .int .i64 0, .int .i64 0, .int .i64 0, .int .i64 0, .bool false, .int .u64 0, .int .u64 0, .int .u64 0, .int .u64 0, .int .u64 0], none⟩,
 ⟨(some 5), .mv (.c (.bool false)), none⟩])
 k103_3
theorem ok103 : fnOk Try.prog 103 c103 29 [.c 4 (some 13), .t 5] = true := by kernel_rfl

def k104_0 : ACode :=
 .cond (.t 9)
 (.seq (.region [
 ⟨(some 4), .mv (.c (.int .i64 (-1))), none⟩])
 (.ret))
 (.skip)

def k104_1 : ACode :=
 .seq (.region [
 ⟨(some 10), .fld 2 (.t 2), none⟩,
 ⟨(some 11), .ld none (.t 10), none⟩,
 ⟨(some 12), .mv (.t 1), none⟩,
 ⟨(some 13), .bin .add (.t 11) (.t 12), none⟩,
 ⟨(some 4), .mv (.t 13), none⟩])
 (.ret)

def k104_2 : ACode :=
 .seq (.seq (.region [
 ⟨(some 5), .mv (.t 1), none⟩,
 ⟨(some 6), .fld 1 (.t 2), none⟩,
 ⟨(some 7), .ld none (.t 6), none⟩,
 ⟨(some 8), .bin .shl (.c (.int .i64 1)) (.t 7), none⟩,
 ⟨(some 9), .bin .geq (.t 5) (.t 8), none⟩])
 k104_0)
 k104_1

def c104 : ACode :=
 .seq (.region [
 ⟨(some 2), .box (.t 0), none⟩,
 ⟨(some 4), .mv (.c (.int .i64 0)), none⟩])
 k104_2
theorem ok104 : fnOk Try.prog 104 c104 14 [.t 4] = true := by kernel_rfl

def k105_0 : ACode :=
 .cond (.t 5)
 (.seq (.region [
 ⟨(some 2), .mv (.c (.int .i64 0)), none⟩])
 (.ret))
 (.skip)

def k105_1 : ACode :=
 .seq (.seq (.region [
 ⟨(some 3), .mv (.t 0), none⟩,
 ⟨(some 4), .call 86 [(.t 3)], none⟩,
 ⟨(some 5), .un .not (.t 4), none⟩])
 k105_0)
 (.seq (.region [
 ⟨(some 6), .mv (.t 0), none⟩,
 ⟨(some 2), .mv (.t 6), none⟩])
 (.ret))

def c105 : ACode :=
 .seq (.region [
 ⟨(some 2), .mv (.c (.int .i64 0)), none⟩])
 k105_1
theorem ok105 : fnOk Try.prog 105 c105 7 [.t 2] = true := by kernel_rfl

def k106_0 : ACode :=
 .seq (.region [
 ⟨(some 4), .ld (some 13) (.t 2), none⟩,
 ⟨(some 5), .ld none (.t 1), none⟩,
 ⟨(some 6), .call 107 [(.t 4), (.t 5)], none⟩,
 ⟨(some 3), .mv (.t 6), none⟩])
 (.ret)

def c106 : ACode :=
 .seq (.region [
 ⟨(some 2), .box (.t 0), none⟩,
 ⟨(some 3), .mv (.c (.bool false)), none⟩])
 k106_0
theorem ok106 : fnOk Try.prog 106 c106 7 [.t 3] = true := by kernel_rfl

def k107_0 : ACode :=
 .seq (.drawn [
 (0, ⟨(some 5), .fld 0 (.t 2), none⟩),
 (1, ⟨(some 6), .ld none (.t 5), none⟩),
 (2, ⟨(some 7), .bin .eql (.t 6) (.c (.int .i64 2)), none⟩),
 (3, ⟨(some 8), .mv (.t 7), none⟩),
 (5, ⟨(some 10), .fld 2 (.t 2), (some (8, true))⟩),
 (6, ⟨(some 11), .ld none (.t 10), (some (8, true))⟩),
 (4, ⟨(some 9), .mv (.t 1), (some (8, true))⟩),
 (7, ⟨(some 12), .bin .geq (.t 9) (.t 11), (some (8, true))⟩),
 (8, ⟨(some 13), .pick (.t 8) (.t 12) (.c (.bool false)), none⟩),
 (9, ⟨(some 14), .mv (.t 13), none⟩),
 (11, ⟨(some 16), .fld 2 (.t 2), (some (14, true))⟩),
 (12, ⟨(some 17), .ld none (.t 16), (some (14, true))⟩),
 (13, ⟨(some 18), .fld 1 (.t 2), (some (14, true))⟩),
 (14, ⟨(some 19), .ld none (.t 18), (some (14, true))⟩),
 (10, ⟨(some 15), .mv (.t 1), (some (14, true))⟩),
 (15, ⟨(some 20), .bin .shl (.c (.int .i64 1)) (.t 19), (some (14, true))⟩),
 (16, ⟨(some 21), .bin .add (.t 17) (.t 20), (some (14, true))⟩),
 (17, ⟨(some 22), .bin .lss (.t 15) (.t 21), (some (14, true))⟩),
 (18, ⟨(some 23), .pick (.t 14) (.t 22) (.c (.bool false)), none⟩),
 (19, ⟨(some 4), .mv (.t 23), none⟩)]
 [[], [0], [1], [2], [3], [3], [5, 3], [4, 6, 3], [3, 7], [8, 3], [9], [9], [11, 9], [9], [13, 9], [14, 9], [12, 15, 9], [10, 16, 9], [9, 17], [18, 9, 0, 1, 2, 3, 4, 5, 6, 7, 8, 9, 10, 11, 12, 13, 14, 15, 16, 17, 18]] 0)
 (.ret)

def c107 : ACode :=
 .seq (.region [
 ⟨(some 2), .box (.t 0), none⟩,
 ⟨(some 4), .mv (.c (.bool false)), none⟩])
 k107_0
theorem ok107 : fnOk Try.prog 107 c107 24 [.t 4] = true := by kernel_rfl

def k108_0 : ACode :=
 .seq (.region [
 ⟨(some 5), .mv (.t 0), none⟩,
 ⟨(some 6), .call 105 [(.t 5)], none⟩,
 ⟨(some 7), .mv (.t 1), none⟩,
 ⟨(some 8), .call 105 [(.t 7)], none⟩,
 ⟨(some 9), .bin .and (.t 6) (.t 8), none⟩,
 ⟨(some 4), .mv (.t 9), none⟩])
 (.ret)

def c108 : ACode :=
 .seq (.region [
 ⟨(some 4), .mv (.c (.int .i64 0)), none⟩])
 k108_0
theorem ok108 : fnOk Try.prog 108 c108 10 [.t 4] = true := by kernel_rfl

def k109_0 : ACode :=
 .seq (.region [
 ⟨(some 30), .build [.lit (.slice none 0 0)] [], none⟩,
 ⟨none, .st 1 (.t 6) (.t 30), none⟩,
 ⟨(some 7), .mv (.c (.bool false)), none⟩])
 (.ret)

def k109_1 : ACode :=
 .region [
 ⟨(some 41), .fld 0 (.t 3), none⟩,
 ⟨(some 42), .ld none (.t 41), none⟩,
 ⟨(some 43), .mv (.t 9), none⟩,
 ⟨(some 44), .mv (.t 2), none⟩,
 ⟨(some 45), .ixs 1 (.t 42) (.t 43), none⟩,
 ⟨none, .st 1 (.t 45) (.t 44), none⟩]

def k109_2 : ACode :=
 .seq (.block 1 (
 .seq (.region [
 ⟨(some 39), .ixs 1 (.t 35) (.t 37), none⟩,
 ⟨(some 40), .ld none (.t 39), none⟩,
 ⟨(some 9), .mv (.t 40), none⟩])
 k109_1))
 (.region [
 ⟨(some 46), .bin .add (.t 37) (.c (.int .i64 1)), none⟩,
 ⟨(some 37), .mv (.t 46), none⟩])

def b109_3 : ACode :=
 .seq (.region [
 ⟨(some 38), .bin .lss (.t 37) (.t 36), none⟩])
 (.seq (.cond (.t 38)
 (.skip)
 (.exit 0))
 k109_2)

def k109_4 : ACode :=
 .seq (.region [
 ⟨(some 60), .ld (some 1) (.t 3), none⟩,
 ⟨none, .st 1 (.t 6) (.t 60), none⟩,
 ⟨(some 7), .mv (.c (.bool true)), none⟩])
 (.ret)

def k109_5 : ACode :=
 .seq (.region [
 ⟨(some 56), .fld 0 (.t 3), none⟩,
 ⟨(some 57), .ld none (.t 56), none⟩,
 ⟨(some 58), .mv (.t 1), none⟩,
 ⟨(some 59), .ixs 1 (.t 57) (.t 58), none⟩,
 ⟨none, .st 1 (.t 59) (.c (.int .i64 (-2))), none⟩])
 k109_4

def k109_6 : ACode :=
 .seq (.drawn [
 (0, ⟨(some 47), .fld 0 (.t 3), none⟩),
 (1, ⟨(some 48), .ld none (.t 47), none⟩),
 (3, ⟨(some 50), .fld 0 (.t 3), none⟩),
 (4, ⟨(some 51), .ld none (.t 50), none⟩),
 (5, ⟨(some 52), .mv (.t 1), none⟩),
 (6, ⟨(some 53), .ixs 1 (.t 51) (.t 52), none⟩),
 (7, ⟨(some 54), .ld none (.t 53), none⟩),
 (2, ⟨(some 49), .mv (.t 2), none⟩),
 (8, ⟨(some 55), .ixs 1 (.t 48) (.t 49), none⟩),
 (9, ⟨none, .st 1 (.t 55) (.t 54), none⟩)]
 [[], [0], [], [], [3], [], [4, 5], [6], [1, 2, 0, 1, 2, 3, 4, 5, 6, 7], [8, 7, 0, 1, 2, 3, 4, 5, 6, 7]] 0)
 k109_5

def k109_7 : ACode :=
 .seq (.seq (.region [
 ⟨(some 33), .ld (some 1) (.t 3), none⟩,
 ⟨(some 34), .mv (.t 1), none⟩,
 ⟨(some 35), .call 84 [(.t 33), (.t 34)], none⟩,
 ⟨(some 36), .len false (.t 35), none⟩,
 ⟨(some 37), .mv (.c (.int .i64 0)), none⟩])
 (.block 0 (
 .loop b109_3)))
 k109_6

def k109_8 : ACode :=
 .seq (.region [
 ⟨(some 31), .ld (some 1) (.t 3), none⟩,
 ⟨(some 32), .call 117 [(.t 31)], none⟩,
 ⟨none, .st 1 (.t 3) (.t 32), none⟩])
 k109_7

def k109_9 : ACode :=
 .seq (.seq (.region [
 ⟨(some 10), .ld (some 1) (.t 3), none⟩,
 ⟨(some 11), .mv (.t 1), none⟩,
 ⟨(some 12), .call 83 [(.t 10), (.t 11)], none⟩,
 ⟨(some 13), .un .not (.t 12), none⟩,
 ⟨(some 14), .mv (.t 13), none⟩,
 ⟨(some 15), .mv (.t 2), (some (14, false))⟩,
 ⟨(some 16), .bin .lss (.t 15) (.c (.int .i64 0)), (some (14, false))⟩,
 ⟨(some 17), .pick (.t 14) (.c (.bool true)) (.t 16), none⟩,
 ⟨(some 18), .mv (.t 17), none⟩,
 ⟨(some 19), .mv (.t 2), (some (18, false))⟩,
 ⟨(some 20), .fld 0 (.t 3), (some (18, false))⟩,
 ⟨(some 21), .ld none (.t 20), (some (18, false))⟩,
 ⟨(some 22), .len false (.t 21), (some (18, false))⟩,
 ⟨(some 23), .bin .geq (.t 19) (.t 22), (some (18, false))⟩,
 ⟨(some 24), .pick (.t 18) (.c (.bool true)) (.t 23), none⟩,
 ⟨(some 25), .mv (.t 24), none⟩,
 ⟨(some 26), .ld (some 1) (.t 3), (some (25, false))⟩,
 ⟨(some 27), .mv (.t 2), (some (25, false))⟩,
 ⟨(some 28), .call 60 [(.t 26), (.t 27)], (some (25, false))⟩,
 ⟨(some 29), .pick (.t 25) (.c (.bool true)) (.t 28), none⟩])
 (.cond (.t 29)
 k109_0
 (.skip)))
 k109_8

def c109 : ACode :=
 .seq (.region [
 ⟨(some 3), .box (.t 0), none⟩,
 ⟨(some 6), .new [.lit (.slice none 0 0)], none⟩,
 ⟨(some 7), .mv (.c (.bool false)), none⟩])
 k109_9
theorem ok109 : fnOk Try.prog 109 c109 61 [.c 6 (some 1), .t 7] = true := by kernel_rfl

def k117_0 : ACode :=
 .seq (.region [
 ⟨(some 3), .fld 0 (.t 1), none⟩,
 ⟨(some 4), .ld none (.t 3), none⟩,
 ⟨(some 5), .call 124 [(.t 4)], none⟩,
 ⟨(some 6), .build [.lit (.slice none 0 0)] [(0, 1, (.t 5))], none⟩,
 ⟨none, .st 1 (.t 2) (.t 6), none⟩])
 (.ret)

def c117 : ACode :=
 .seq (.region [
 ⟨(some 1), .box (.t 0), none⟩,
 ⟨(some 2), .new [.lit (.slice none 0 0)], none⟩])
 k117_0
theorem ok117 : fnOk Try.prog 117 c117 7 [.c 2 (some 1)] = true := by kernel_rfl

end Go.Proofs.Ytipigjckoejfpaa.Ax

/- The code of functions of the program, for our abstract machine; each is tied to the program by a closed test. Written by gen.py. Conditions: none. -/
namespace Go.Proofs.Ytipigjckoejfpaa.Ax
open Go Go.Ax
set_option maxRecDepth 100000

def k16_0 : ACode :=
 .seq (.region [
 ⟨(some 25), .ld (some 5) (.t 3), none⟩,
 ⟨(some 26), .build [.int .i64 0, .int .u64 0, .int .i64 0] [(0, 1, (.c (.int .i64 1)))], none⟩,
 ⟨none, .st 5 (.t 6) (.t 25), none⟩,
 ⟨none, .st 3 (.t 7) (.t 26), none⟩])
 (.ret)

def k16_1 : ACode :=
 .seq (.region [
 ⟨(some 42), .ld (some 5) (.t 3), none⟩,
 ⟨(some 43), .mv (.t 10), none⟩,
 ⟨(some 44), .build [.int .i64 0, .int .u64 0, .int .i64 0] [(0, 1, (.t 43))], none⟩,
 ⟨none, .st 5 (.t 6) (.t 42), none⟩,
 ⟨none, .st 3 (.t 7) (.t 44), none⟩])
 (.ret)

def k16_2 : ACode :=
 .seq (.region [
 ⟨(some 49), .ld (some 5) (.t 3), none⟩,
 ⟨(some 50), .build [.int .i64 0, .int .u64 0, .int .i64 0] [(0, 1, (.c (.int .i64 7)))], none⟩,
 ⟨none, .st 5 (.t 6) (.t 49), none⟩,
 ⟨none, .st 3 (.t 7) (.t 50), none⟩])
 (.ret)

def k16_3 : ACode :=
 .seq (.region [
 ⟨(some 57), .ld (some 5) (.t 3), none⟩,
 ⟨(some 58), .build [.int .i64 0, .int .u64 0, .int .i64 0] [(0, 1, (.c (.int .i64 6)))], none⟩,
 ⟨none, .st 5 (.t 6) (.t 57), none⟩,
 ⟨none, .st 3 (.t 7) (.t 58), none⟩])
 (.ret)

def k16_4 : ACode :=
 .seq (.region [
 ⟨(some 52), .mv (.t 11), none⟩,
 ⟨(some 53), .fld 2 (.t 9), none⟩,
 ⟨(some 54), .ld none (.t 53), none⟩,
 ⟨(some 55), .call 48 [(.t 52), (.t 54)], none⟩,
 ⟨(some 56), .un .not (.t 55), none⟩,
 ⟨(some 51), .mv (.t 56), none⟩])
 (.cond (.t 51)
 k16_3
 (.skip))

def k16_5 : ACode :=
 .seq (.region [
 ⟨(some 46), .fld 0 (.t 9), none⟩,
 ⟨(some 47), .ld none (.t 46), none⟩,
 ⟨(some 48), .bin .neq (.t 47) (.c (.int .i64 3)), none⟩,
 ⟨(some 45), .mv (.t 48), none⟩])
 (.cond (.t 45)
 k16_2
 k16_4)

def k16_6 : ACode :=
 .seq (.region [
 ⟨(some 62), .ld (some 5) (.t 3), none⟩,
 ⟨(some 63), .mv (.t 1), none⟩,
 ⟨(some 64), .ld (some 6) (.t 5), none⟩,
 ⟨(some 65), .ld (some 4) (.t 9), none⟩,
 ⟨(some 66), .call 49 [(.t 62), (.t 63), (.t 64), (.t 65)], none⟩,
 ⟨(some 67), .ext (.t 66) 0, none⟩,
 ⟨(some 68), .ext (.t 66) 1, none⟩,
 ⟨none, .st 5 (.t 6) (.t 67), none⟩,
 ⟨none, .st 3 (.t 7) (.t 68), none⟩])
 (.ret)

def k16_7 : ACode :=
 .seq (.region [
 ⟨(some 69), .ld (some 5) (.t 3), none⟩,
 ⟨(some 70), .mv (.t 1), none⟩,
 ⟨(some 71), .ld (some 6) (.t 5), none⟩,
 ⟨(some 72), .ld (some 4) (.t 9), none⟩,
 ⟨(some 73), .call 50 [(.t 69), (.t 70), (.t 71), (.t 72)], none⟩,
 ⟨(some 74), .ext (.t 73) 0, none⟩,
 ⟨(some 75), .ext (.t 73) 1, none⟩,
 ⟨none, .st 5 (.t 6) (.t 74), none⟩,
 ⟨none, .st 3 (.t 7) (.t 75), none⟩])
 (.ret)

def k16_8 : ACode :=
 .seq (.seq (.region [
 ⟨(some 59), .fld 0 (.t 5), none⟩,
 ⟨(some 60), .ld none (.t 59), none⟩,
 ⟨(some 61), .bin .eql (.t 60) (.c (.int .i64 7)), none⟩])
 (.cond (.t 61)
 k16_6
 (.skip)))
 k16_7

def k16_9 : ACode :=
 .seq (.block 0 (
 .seq (.region [
 ⟨(some 40), .mv (.t 10), none⟩,
 ⟨(some 41), .bin .neq (.t 40) (.c (.int .i64 0)), none⟩,
 ⟨(some 39), .mv (.t 41), none⟩])
 (.cond (.t 39)
 k16_1
 k16_5)))
 k16_8

def k16_10 : ACode :=
 .seq (.seq (.region [
 ⟨(some 36), .fld 0 (.t 5), none⟩,
 ⟨(some 37), .ld none (.t 36), none⟩,
 ⟨(some 38), .bin .eql (.t 37) (.c (.int .i64 8)), none⟩])
 (.cond (.t 38)
 (.region [
 ⟨(some 11), .mv (.c (.int .i64 1)), none⟩])
 (.skip)))
 k16_9

def k16_11 : ACode :=
 .seq (.region [
 ⟨(some 28), .ld (some 5) (.t 3), none⟩,
 ⟨(some 29), .mv (.t 1), none⟩,
 ⟨(some 30), .fld 1 (.t 5), none⟩,
 ⟨(some 31), .ld (some 1) (.t 30), none⟩,
 ⟨(some 32), .call 47 [(.t 28), (.t 29), (.t 31)], none⟩,
 ⟨(some 27), .mv (.t 32), none⟩,
 ⟨(some 33), .ext (.t 27) 0, none⟩,
 ⟨(some 34), .ext (.t 27) 1, none⟩,
 ⟨(some 35), .ext (.t 27) 2, none⟩,
 ⟨(some 9), .new [.int .i64 0, .int .i64 0, .int .i64 0, .int .i64 0], none⟩,
 ⟨(some 8), .mv (.t 33), none⟩,
 ⟨none, .st 4 (.t 9) (.t 34), none⟩,
 ⟨(some 10), .mv (.t 35), none⟩])
 (.seq (.region [
 ⟨(some 11), .mv (.c (.int .i64 2)), none⟩])
 k16_10)

def k16_12 : ACode :=
 .seq (.seq (.region [
 ⟨(some 12), .ld (some 6) (.t 5), none⟩,
 ⟨(some 13), .call 46 [(.t 12)], none⟩,
 ⟨(some 14), .un .not (.t 13), none⟩,
 ⟨(some 15), .mv (.t 14), none⟩,
 ⟨(some 16), .fld 0 (.t 5), (some (15, false))⟩,
 ⟨(some 17), .ld none (.t 16), (some (15, false))⟩,
 ⟨(some 18), .bin .neq (.t 17) (.c (.int .i64 7)), (some (15, false))⟩,
 ⟨(some 19), .mv (.t 18), (some (15, false))⟩,
 ⟨(some 20), .fld 0 (.t 5), (some (19, true))⟩,
 ⟨(some 21), .ld none (.t 20), (some (19, true))⟩,
 ⟨(some 22), .bin .neq (.t 21) (.c (.int .i64 8)), (some (19, true))⟩,
 ⟨(some 23), .pick (.t 19) (.t 22) (.c (.bool false)), (some (15, false))⟩,
 ⟨(some 24), .pick (.t 15) (.c (.bool true)) (.t 23), none⟩])
 (.cond (.t 24)
 k16_0
 (.skip)))
 k16_11

def c16 : ACode :=
 .seq (.region [
 ⟨(some 3), .box (.t 0), none⟩,
 ⟨(some 5), .box (.t 2), none⟩,
 ⟨(some 6), .new [.int .i64 0, .int .i64 0, .int .i64 0, .lit (.slice none 0 0), .lit (.slice none 0 0)], none⟩,
 ⟨(some 7), .new [.int .i64 0, .int .u64 0, .int .i64 0], none⟩])
 k16_12
theorem ok16 : fnOk Try.prog 16 c16 76 [.c 6 (some 5), .c 7 (some 3)] = true := by kernel_rfl

def k23_0 : ACode :=
 .seq (.region [
 ⟨(some 21), .ld (some 5) (.t 3), none⟩,
 ⟨(some 22), .mv (.t 10), none⟩,
 ⟨(some 23), .build [.int .i64 0, .int .u64 0, .int .i64 0] [(0, 1, (.t 22))], none⟩,
 ⟨none, .st 5 (.t 6) (.t 21), none⟩,
 ⟨none, .st 3 (.t 7) (.t 23), none⟩])
 (.ret)

def k23_1 : ACode :=
 .seq (.region [
 ⟨(some 24), .ld (some 5) (.t 8), none⟩,
 ⟨(some 25), .mv (.t 9), none⟩,
 ⟨(some 26), .build [.int .i64 0, .int .u64 0, .int .i64 0] [(2, 1, (.t 25))], none⟩,
 ⟨none, .st 5 (.t 6) (.t 24), none⟩,
 ⟨none, .st 3 (.t 7) (.t 26), none⟩])
 (.ret)

def k23_2 : ACode :=
 .seq (.seq (.region [
 ⟨(some 19), .mv (.t 10), none⟩,
 ⟨(some 20), .bin .neq (.t 19) (.c (.int .i64 0)), none⟩])
 (.cond (.t 20)
 k23_0
 (.skip)))
 k23_1

def k23_3 : ACode :=
 .seq (.region [
 ⟨(some 12), .ld (some 5) (.t 3), none⟩,
 ⟨(some 13), .mv (.t 1), none⟩,
 ⟨(some 14), .ld (some 6) (.t 5), none⟩,
 ⟨(some 15), .call 57 [(.t 12), (.t 13), (.t 14)], none⟩,
 ⟨(some 11), .mv (.t 15), none⟩,
 ⟨(some 16), .ext (.t 11) 0, none⟩,
 ⟨(some 17), .ext (.t 11) 1, none⟩,
 ⟨(some 18), .ext (.t 11) 2, none⟩,
 ⟨(some 8), .new [.int .i64 0, .int .i64 0, .int .i64 0, .lit (.slice none 0 0), .lit (.slice none 0 0)], none⟩,
 ⟨none, .st 5 (.t 8) (.t 16), none⟩,
 ⟨(some 9), .mv (.t 17), none⟩,
 ⟨(some 10), .mv (.t 18), none⟩])
 k23_2

def c23 : ACode :=
 .seq (.region [
 ⟨(some 3), .box (.t 0), none⟩,
 ⟨(some 5), .box (.t 2), none⟩,
 ⟨(some 6), .new [.int .i64 0, .int .i64 0, .int .i64 0, .lit (.slice none 0 0), .lit (.slice none 0 0)], none⟩,
 ⟨(some 7), .new [.int .i64 0, .int .u64 0, .int .i64 0], none⟩])
 k23_3
theorem ok23 : fnOk Try.prog 23 c23 27 [.c 6 (some 5), .c 7 (some 3)] = true := by kernel_rfl

def k24_0 : ACode :=
 .cond (.t 28)
 (.seq (.region [
 ⟨(some 4), .mv (.c (.int .i64 0)), none⟩])
 (.ret))
 (.skip)

def k24_1 : ACode :=
 .cond (.t 34)
 (.seq (.region [
 ⟨(some 4), .mv (.c (.int .i64 0)), none⟩])
 (.ret))
 (.skip)

def k24_2 : ACode :=
 .seq (.drawn [
 (0, ⟨(some 35), .fld 4 (.t 2), none⟩),
 (1, ⟨(some 36), .ld none (.t 35), none⟩),
 (2, ⟨(some 37), .fld 3 (.t 2), none⟩),
 (3, ⟨(some 38), .ld none (.t 37), none⟩),
 (4, ⟨(some 39), .mv (.t 1), none⟩),
 (5, ⟨(some 40), .ixs 5 (.t 38) (.t 39), none⟩),
 (6, ⟨(some 41), .fld 0 (.t 40), none⟩),
 (7, ⟨(some 42), .fld 1 (.t 41), none⟩),
 (8, ⟨(some 43), .ld none (.t 42), none⟩),
 (9, ⟨(some 44), .ixs 13 (.t 36) (.t 43), none⟩),
 (10, ⟨(some 45), .fld 4 (.t 44), none⟩),
 (11, ⟨(some 46), .ld none (.t 45), none⟩),
 (12, ⟨(some 4), .mv (.t 46), none⟩)]
 [[], [0], [], [2], [], [3, 4], [5], [6], [7], [1, 8], [9], [10], [11, 0, 1, 2, 3, 4, 5, 6, 7, 8, 9, 10, 11]] 0)
 (.ret)

def k24_3 : ACode :=
 .seq (.seq (.region [
 ⟨(some 29), .ld (some 5) (.t 2), none⟩,
 ⟨(some 30), .call 28 [(.t 29)], none⟩,
 ⟨(some 31), .mv (.t 1), none⟩,
 ⟨(some 32), .call 58 [(.t 30), (.t 31)], none⟩,
 ⟨(some 33), .len false (.t 32), none⟩,
 ⟨(some 34), .bin .eql (.t 33) (.c (.int .i64 0)), none⟩])
 k24_1)
 k24_2

def k24_4 : ACode :=
 .seq (.seq (.region [
 ⟨(some 5), .ld (some 5) (.t 2), none⟩,
 ⟨(some 6), .call 15 [(.t 5)], none⟩,
 ⟨(some 7), .un .not (.t 6), none⟩,
 ⟨(some 8), .mv (.t 7), none⟩,
 ⟨(some 9), .mv (.t 1), (some (8, false))⟩,
 ⟨(some 10), .bin .lss (.t 9) (.c (.int .i64 0)), (some (8, false))⟩,
 ⟨(some 11), .pick (.t 8) (.c (.bool true)) (.t 10), none⟩,
 ⟨(some 12), .mv (.t 11), none⟩,
 ⟨(some 13), .mv (.t 1), (some (12, false))⟩,
 ⟨(some 14), .fld 3 (.t 2), (some (12, false))⟩,
 ⟨(some 15), .ld none (.t 14), (some (12, false))⟩,
 ⟨(some 16), .len false (.t 15), (some (12, false))⟩,
 ⟨(some 17), .bin .geq (.t 13) (.t 16), (some (12, false))⟩,
 ⟨(some 18), .pick (.t 12) (.c (.bool true)) (.t 17), none⟩,
 ⟨(some 19), .mv (.t 18), none⟩,
 ⟨(some 20), .fld 3 (.t 2), (some (19, false))⟩,
 ⟨(some 21), .ld none (.t 20), (some (19, false))⟩,
 ⟨(some 22), .mv (.t 1), (some (19, false))⟩,
 ⟨(some 23), .ixs 5 (.t 21) (.t 22), (some (19, false))⟩,
 ⟨(some 24), .fld 0 (.t 23), (some (19, false))⟩,
 ⟨(some 25), .fld 0 (.t 24), (some (19, false))⟩,
 ⟨(some 26), .ld none (.t 25), (some (19, false))⟩,
 ⟨(some 27), .bin .neq (.t 26) (.c (.int .i64 1)), (some (19, false))⟩,
 ⟨(some 28), .pick (.t 19) (.c (.bool true)) (.t 27), none⟩])
 k24_0)
 k24_3

def c24 : ACode :=
 .seq (.region [
 ⟨(some 2), .box (.t 0), none⟩,
 ⟨(some 4), .mv (.c (.int .i64 0)), none⟩])
 k24_4
theorem ok24 : fnOk Try.prog 24 c24 47 [.t 4] = true := by kernel_rfl

def k34_0 : ACode :=
 .region [
 ⟨(some 43), .ld (some 5) (.t 4), none⟩,
 ⟨(some 44), .mv (.t 2), none⟩,
 ⟨(some 45), .call 64 [(.t 43), (.t 44)], none⟩,
 ⟨(some 46), .bin .lss (.t 45) (.c (.int .i64 0)), none⟩,
 ⟨(some 14), .mv (.t 46), none⟩]

def k34_1 : ACode :=
 .seq (.region [
 ⟨(some 18), .mv (.t 1), none⟩,
 ⟨(some 19), .bin .lss (.t 18) (.c (.int .i64 0)), none⟩,
 ⟨(some 20), .mv (.t 19), none⟩,
 ⟨(some 21), .mv (.t 1), (some (20, false))⟩,
 ⟨(some 22), .mv (.t 10), (some (20, false))⟩,
 ⟨(some 23), .bin .geq (.t 21) (.t 22), (some (20, false))⟩,
 ⟨(some 24), .pick (.t 20) (.c (.bool true)) (.t 23), none⟩,
 ⟨(some 25), .mv (.t 24), none⟩,
 ⟨(some 26), .mv (.t 2), (some (25, false))⟩,
 ⟨(some 27), .bin .lss (.t 26) (.c (.int .i64 0)), (some (25, false))⟩,
 ⟨(some 28), .pick (.t 25) (.c (.bool true)) (.t 27), none⟩,
 ⟨(some 29), .mv (.t 28), none⟩,
 ⟨(some 30), .mv (.t 2), (some (29, false))⟩,
 ⟨(some 31), .mv (.t 10), (some (29, false))⟩,
 ⟨(some 32), .bin .geq (.t 30) (.t 31), (some (29, false))⟩,
 ⟨(some 33), .pick (.t 29) (.c (.bool true)) (.t 32), none⟩,
 ⟨(some 34), .mv (.t 33), none⟩,
 ⟨(some 35), .ld (some 4) (.t 7), (some (34, false))⟩,
 ⟨(some 36), .call 63 [(.t 35)], (some (34, false))⟩,
 ⟨(some 37), .un .not (.t 36), (some (34, false))⟩,
 ⟨(some 38), .pick (.t 34) (.c (.bool true)) (.t 37), none⟩,
 ⟨(some 39), .mv (.t 38), none⟩,
 ⟨(some 40), .ld (some 4) (.t 7), (some (39, false))⟩,
 ⟨(some 41), .call 37 [(.t 40)], (some (39, false))⟩,
 ⟨(some 42), .pick (.t 39) (.c (.bool true)) (.t 41), none⟩,
 ⟨(some 14), .mv (.t 42), none⟩])
 (.cond (.t 14)
 (.skip)
 k34_0)

def k34_2 : ACode :=
 .seq (.region [
 ⟨(some 47), .ld (some 5) (.t 4), none⟩,
 ⟨none, .st 5 (.t 8) (.t 47), none⟩,
 ⟨(some 9), .mv (.c (.int .i64 1)), none⟩])
 (.ret)

def k34_3 : ACode :=
 .seq (.region [
 ⟨(some 56), .ld (some 5) (.t 4), none⟩,
 ⟨none, .st 5 (.t 8) (.t 56), none⟩,
 ⟨(some 9), .mv (.c (.int .i64 4)), none⟩])
 (.ret)

def k34_4 : ACode :=
 .seq (.region [
 ⟨(some 66), .ld (some 5) (.t 4), none⟩,
 ⟨none, .st 5 (.t 8) (.t 66), none⟩,
 ⟨(some 9), .mv (.c (.int .i64 5)), none⟩])
 (.ret)

def k34_5 : ACode :=
 .seq (.region [
 ⟨(some 76), .ld (some 5) (.t 4), none⟩,
 ⟨none, .st 5 (.t 8) (.t 76), none⟩,
 ⟨(some 9), .mv (.c (.int .i64 7)), none⟩])
 (.ret)

def k34_6 : ACode :=
 .region [
 ⟨(some 87), .ld (some 5) (.t 4), none⟩,
 ⟨(some 88), .ld (some 4) (.t 7), none⟩,
 ⟨(some 89), .mv (.t 2), none⟩,
 ⟨(some 90), .call 65 [(.t 87), (.t 88), (.t 89)], none⟩,
 ⟨(some 77), .mv (.t 90), none⟩]

def k34_7 : ACode :=
 .seq (.region [
 ⟨(some 91), .ld (some 5) (.t 4), none⟩,
 ⟨none, .st 5 (.t 8) (.t 91), none⟩,
 ⟨(some 9), .mv (.c (.int .i64 1)), none⟩])
 (.ret)

def k34_8 : ACode :=
 .seq (.seq (.drawn [
 (0, ⟨(some 78), .ld (some 4) (.t 7), none⟩),
 (1, ⟨(some 79), .fld 3 (.t 4), none⟩),
 (2, ⟨(some 80), .ld none (.t 79), none⟩),
 (3, ⟨(some 81), .mv (.t 1), none⟩),
 (4, ⟨(some 82), .ixs 5 (.t 80) (.t 81), none⟩),
 (5, ⟨(some 83), .fld 0 (.t 82), none⟩),
 (6, ⟨(some 84), .ld (some 4) (.t 83), none⟩),
 (7, ⟨(some 85), .call 38 [(.t 78), (.t 84)], none⟩),
 (8, ⟨(some 86), .un .not (.t 85), none⟩),
 (9, ⟨(some 77), .mv (.t 86), none⟩)]
 [[], [], [1], [], [2, 3], [4], [5], [0, 6], [7], [8, 7]] 0)
 (.cond (.t 77)
 (.skip)
 k34_6))
 (.cond (.t 77)
 k34_7
 (.skip))

def k34_9 : ACode :=
 .seq (.region [
 ⟨(some 68), .fld 3 (.t 4), none⟩,
 ⟨(some 69), .ld none (.t 68), none⟩,
 ⟨(some 70), .mv (.t 1), none⟩,
 ⟨(some 71), .ixs 5 (.t 69) (.t 70), none⟩,
 ⟨(some 72), .fld 0 (.t 71), none⟩,
 ⟨(some 73), .fld 0 (.t 72), none⟩,
 ⟨(some 74), .ld none (.t 73), none⟩,
 ⟨(some 75), .bin .eql (.t 74) (.c (.int .i64 1)), none⟩,
 ⟨(some 67), .mv (.t 75), none⟩])
 (.cond (.t 67)
 k34_5
 k34_8)

def k34_10 : ACode :=
 .seq (.region [
 ⟨(some 58), .fld 3 (.t 4), none⟩,
 ⟨(some 59), .ld none (.t 58), none⟩,
 ⟨(some 60), .mv (.t 2), none⟩,
 ⟨(some 61), .ixs 5 (.t 59) (.t 60), none⟩,
 ⟨(some 62), .fld 0 (.t 61), none⟩,
 ⟨(some 63), .ld (some 4) (.t 62), none⟩,
 ⟨(some 64), .call 37 [(.t 63)], none⟩,
 ⟨(some 65), .un .not (.t 64), none⟩,
 ⟨(some 57), .mv (.t 65), none⟩])
 (.cond (.t 57)
 k34_4
 k34_9)

def k34_11 : ACode :=
 .seq (.region [
 ⟨(some 49), .fld 3 (.t 4), none⟩,
 ⟨(some 50), .ld none (.t 49), none⟩,
 ⟨(some 51), .mv (.t 1), none⟩,
 ⟨(some 52), .ixs 5 (.t 50) (.t 51), none⟩,
 ⟨(some 53), .fld 0 (.t 52), none⟩,
 ⟨(some 54), .ld (some 4) (.t 53), none⟩,
 ⟨(some 55), .call 37 [(.t 54)], none⟩,
 ⟨(some 48), .mv (.t 55), none⟩])
 (.cond (.t 48)
 k34_3
 k34_10)

def k34_12 : ACode :=
 .seq (.region [
 ⟨(some 101), .ld (some 5) (.t 4), none⟩,
 ⟨none, .st 5 (.t 8) (.t 101), none⟩,
 ⟨(some 9), .mv (.c (.int .i64 0)), none⟩])
 (.ret)

def k34_13 : ACode :=
 .seq (.region [
 ⟨(some 94), .fld 3 (.t 4), none⟩,
 ⟨(some 95), .ld none (.t 94), none⟩,
 ⟨(some 96), .mv (.t 2), none⟩,
 ⟨(some 97), .ld (some 4) (.t 7), none⟩,
 ⟨(some 98), .mv (.t 1), none⟩,
 ⟨(some 99), .build [.int .i64 0, .int .i64 0, .int .i64 0, .int .i64 0, .int .i64 0] [(0, 4, (.t 97)), (4, 1, (.t 98))], none⟩,
 ⟨(some 100), .ixs 5 (.t 95) (.t 96), none⟩,
 ⟨none, .st 5 (.t 100) (.t 99), none⟩])
 k34_12

def k34_14 : ACode :=
 .seq (.region [
 ⟨(some 92), .ld (some 5) (.t 4), none⟩,
 ⟨(some 93), .call 22 [(.t 92)], none⟩,
 ⟨none, .st 5 (.t 4) (.t 93), none⟩])
 k34_13

def k34_15 : ACode :=
 .seq (.block 0 (
 .seq (.seq (.region [
 ⟨(some 15), .ld (some 5) (.t 4), none⟩,
 ⟨(some 16), .call 15 [(.t 15)], none⟩,
 ⟨(some 17), .un .not (.t 16), none⟩,
 ⟨(some 14), .mv (.t 17), none⟩])
 (.cond (.t 14)
 (.skip)
 k34_1))
 (.cond (.t 14)
 k34_2
 k34_11)))
 k34_14

def k34_16 : ACode :=
 .seq (.region [
 ⟨(some 11), .fld 3 (.t 4), none⟩,
 ⟨(some 12), .ld none (.t 11), none⟩,
 ⟨(some 13), .len false (.t 12), none⟩,
 ⟨(some 10), .mv (.t 13), none⟩])
 k34_15

def c34 : ACode :=
 .seq (.region [
 ⟨(some 4), .box (.t 0), none⟩,
 ⟨(some 7), .box (.t 3), none⟩,
 ⟨(some 8), .new [.int .i64 0, .int .i64 0, .int .i64 0, .lit (.slice none 0 0), .lit (.slice none 0 0)], none⟩,
 ⟨(some 9), .mv (.c (.int .i64 0)), none⟩])
 k34_16
theorem ok34 : fnOk Try.prog 34 c34 102 [.c 8 (some 5), .t 9] = true := by kernel_rfl

def k35_0 : ACode :=
 .seq (.region [
 ⟨(some 19), .ld (some 5) (.t 3), none⟩,
 ⟨(some 20), .mv (.t 9), none⟩,
 ⟨(some 21), .build [.int .i64 0, .int .u64 0, .int .i64 0] [(0, 1, (.t 20))], none⟩,
 ⟨none, .st 5 (.t 6) (.t 19), none⟩,
 ⟨none, .st 3 (.t 7) (.t 21), none⟩])
 (.ret)

def k35_1 : ACode :=
 .seq (.region [
 ⟨(some 22), .ld (some 5) (.t 8), none⟩,
 ⟨(some 23), .build [.int .i64 0, .int .u64 0, .int .i64 0] [], none⟩,
 ⟨none, .st 5 (.t 6) (.t 22), none⟩,
 ⟨none, .st 3 (.t 7) (.t 23), none⟩])
 (.ret)

def k35_2 : ACode :=
 .seq (.seq (.region [
 ⟨(some 17), .mv (.t 9), none⟩,
 ⟨(some 18), .bin .neq (.t 17) (.c (.int .i64 0)), none⟩])
 (.cond (.t 18)
 k35_0
 (.skip)))
 k35_1

def k35_3 : ACode :=
 .seq (.region [
 ⟨(some 11), .ld (some 5) (.t 3), none⟩,
 ⟨(some 12), .mv (.t 1), none⟩,
 ⟨(some 13), .ld (some 6) (.t 5), none⟩,
 ⟨(some 14), .call 66 [(.t 11), (.t 12), (.t 13)], none⟩,
 ⟨(some 10), .mv (.t 14), none⟩,
 ⟨(some 15), .ext (.t 10) 0, none⟩,
 ⟨(some 16), .ext (.t 10) 1, none⟩,
 ⟨(some 8), .new [.int .i64 0, .int .i64 0, .int .i64 0, .lit (.slice none 0 0), .lit (.slice none 0 0)], none⟩,
 ⟨none, .st 5 (.t 8) (.t 15), none⟩,
 ⟨(some 9), .mv (.t 16), none⟩])
 k35_2

def c35 : ACode :=
 .seq (.region [
 ⟨(some 3), .box (.t 0), none⟩,
 ⟨(some 5), .box (.t 2), none⟩,
 ⟨(some 6), .new [.int .i64 0, .int .i64 0, .int .i64 0, .lit (.slice none 0 0), .lit (.slice none 0 0)], none⟩,
 ⟨(some 7), .new [.int .i64 0, .int .u64 0, .int .i64 0], none⟩])
 k35_3
theorem ok35 : fnOk Try.prog 35 c35 24 [.c 6 (some 5), .c 7 (some 3)] = true := by kernel_rfl

def k49_0 : ACode :=
 .seq (.region [
 ⟨(some 23), .ld (some 5) (.t 4), none⟩,
 ⟨(some 24), .build [.int .i64 0, .int .u64 0, .int .i64 0] [(0, 1, (.c (.int .i64 6)))], none⟩,
 ⟨none, .st 5 (.t 8) (.t 23), none⟩,
 ⟨none, .st 3 (.t 9) (.t 24), none⟩])
 (.ret)

def k49_1 : ACode :=
 .seq (.region [
 ⟨(some 37), .ld (some 5) (.t 4), none⟩,
 ⟨(some 38), .mv (.t 13), none⟩,
 ⟨(some 39), .build [.int .i64 0, .int .u64 0, .int .i64 0] [(0, 1, (.t 38))], none⟩,
 ⟨none, .st 5 (.t 8) (.t 37), none⟩,
 ⟨none, .st 3 (.t 9) (.t 39), none⟩])
 (.ret)

def k49_2 : ACode :=
 .seq (.region [
 ⟨(some 44), .ld (some 5) (.t 4), none⟩,
 ⟨(some 45), .build [.int .i64 0, .int .u64 0, .int .i64 0] [(0, 1, (.c (.int .i64 7)))], none⟩,
 ⟨none, .st 5 (.t 8) (.t 44), none⟩,
 ⟨none, .st 3 (.t 9) (.t 45), none⟩])
 (.ret)

def k49_3 : ACode :=
 .seq (.region [
 ⟨(some 41), .fld 0 (.t 12), none⟩,
 ⟨(some 42), .ld none (.t 41), none⟩,
 ⟨(some 43), .bin .eql (.t 42) (.c (.int .i64 1)), none⟩,
 ⟨(some 40), .mv (.t 43), none⟩])
 (.cond (.t 40)
 k49_2
 (.skip))

def k49_4 : ACode :=
 .seq (.block 0 (
 .seq (.region [
 ⟨(some 35), .mv (.t 13), none⟩,
 ⟨(some 36), .bin .neq (.t 35) (.c (.int .i64 0)), none⟩,
 ⟨(some 34), .mv (.t 36), none⟩])
 (.cond (.t 34)
 k49_1
 k49_3)))
 (.region [
 ⟨(some 46), .mv (.t 11), none⟩,
 ⟨(some 47), .bin .add (.t 46) (.c (.int .i64 1)), none⟩,
 ⟨(some 10), .mv (.t 47), none⟩])

def k49_5 : ACode :=
 .seq (.region [
 ⟨(some 26), .ld (some 5) (.t 4), none⟩,
 ⟨(some 27), .mv (.t 1), none⟩,
 ⟨(some 28), .fld 2 (.t 6), none⟩,
 ⟨(some 29), .ld (some 1) (.t 28), none⟩,
 ⟨(some 30), .call 47 [(.t 26), (.t 27), (.t 29)], none⟩,
 ⟨(some 25), .mv (.t 30), none⟩,
 ⟨(some 31), .ext (.t 25) 0, none⟩,
 ⟨(some 32), .ext (.t 25) 1, none⟩,
 ⟨(some 33), .ext (.t 25) 2, none⟩,
 ⟨(some 12), .new [.int .i64 0, .int .i64 0, .int .i64 0, .int .i64 0], none⟩,
 ⟨(some 11), .mv (.t 31), none⟩,
 ⟨none, .st 4 (.t 12) (.t 32), none⟩,
 ⟨(some 13), .mv (.t 33), none⟩])
 k49_4

def k49_6 : ACode :=
 .seq (.seq (.region [
 ⟨(some 19), .fld 2 (.t 7), none⟩,
 ⟨(some 20), .ld none (.t 19), none⟩,
 ⟨(some 21), .call 48 [(.c (.int .i64 4)), (.t 20)], none⟩,
 ⟨(some 22), .un .not (.t 21), none⟩])
 (.cond (.t 22)
 k49_0
 (.skip)))
 k49_5

def k49_7 : ACode :=
 .seq (.region [
 ⟨(some 55), .ld (some 5) (.t 4), none⟩,
 ⟨(some 56), .build [.int .i64 0, .int .u64 0, .int .i64 0] [(0, 1, (.c (.int .i64 13)))], none⟩,
 ⟨none, .st 5 (.t 8) (.t 55), none⟩,
 ⟨none, .st 3 (.t 9) (.t 56), none⟩])
 (.ret)

def k49_8 : ACode :=
 .seq (.region [
 ⟨(some 70), .ld (some 5) (.t 4), none⟩,
 ⟨(some 71), .build [.int .i64 0, .int .u64 0, .int .i64 0] [], none⟩,
 ⟨none, .st 5 (.t 8) (.t 70), none⟩,
 ⟨none, .st 3 (.t 9) (.t 71), none⟩])
 (.ret)

def k49_9 : ACode :=
 .seq (.region [
 ⟨(some 59), .fld 4 (.t 4), none⟩,
 ⟨(some 60), .ld none (.t 59), none⟩,
 ⟨(some 61), .fld 1 (.t 7), none⟩,
 ⟨(some 62), .ld none (.t 61), none⟩,
 ⟨(some 63), .fld 5 (.t 6), none⟩,
 ⟨(some 64), .ld none (.t 63), none⟩,
 ⟨(some 65), .fld 3 (.t 7), none⟩,
 ⟨(some 66), .ld none (.t 65), none⟩,
 ⟨(some 67), .mv (.t 10), none⟩,
 ⟨(some 68), .build [.int .i64 0, .int .i64 0, .int .i64 0, .int .i64 0, .int .i64 0, .int .i64 0, .int .i64 0, .bool false, .int .u64 0, .int .u64 0, .int .u64 0, .int .u64 0, .int .u64 0] [(0, 1, (.c (.int .i64 3))), (7, 1, (.c (.bool true))), (8, 1, (.t 64)), (6, 1, (.t 66)), (5, 1, (.t 67))], none⟩,
 ⟨(some 69), .ixs 13 (.t 60) (.t 62), none⟩,
 ⟨none, .st 13 (.t 69) (.t 68), none⟩])
 k49_8

def k49_10 : ACode :=
 .seq (.region [
 ⟨(some 57), .ld (some 5) (.t 4), none⟩,
 ⟨(some 58), .call 22 [(.t 57)], none⟩,
 ⟨none, .st 5 (.t 4) (.t 58), none⟩])
 k49_9

def k49_11 : ACode :=
 .seq (.seq (.region [
 ⟨(some 48), .fld 4 (.t 4), none⟩,
 ⟨(some 49), .ld none (.t 48), none⟩,
 ⟨(some 50), .fld 1 (.t 7), none⟩,
 ⟨(some 51), .ld none (.t 50), none⟩,
 ⟨(some 52), .ixs 13 (.t 49) (.t 51), none⟩,
 ⟨(some 53), .fld 7 (.t 52), none⟩,
 ⟨(some 54), .ld none (.t 53), none⟩])
 (.cond (.t 54)
 k49_7
 (.skip)))
 k49_10

def k49_12 : ACode :=
 .seq (.seq (.region [
 ⟨(some 14), .fld 2 (.t 6), none⟩,
 ⟨(some 15), .fld 0 (.t 14), none⟩,
 ⟨(some 16), .ld none (.t 15), none⟩,
 ⟨(some 17), .len false (.t 16), none⟩,
 ⟨(some 18), .bin .gtr (.t 17) (.c (.int .i64 0)), none⟩])
 (.cond (.t 18)
 k49_6
 (.skip)))
 k49_11

def c49 : ACode :=
 .seq (.region [
 ⟨(some 4), .box (.t 0), none⟩,
 ⟨(some 6), .box (.t 2), none⟩,
 ⟨(some 7), .box (.t 3), none⟩,
 ⟨(some 8), .new [.int .i64 0, .int .i64 0, .int .i64 0, .lit (.slice none 0 0), .lit (.slice none 0 0)], none⟩,
 ⟨(some 9), .new [.int .i64 0, .int .u64 0, .int .i64 0], none⟩])
 (.seq (.region [
 ⟨(some 10), .mv (.c (.int .i64 0)), none⟩])
 k49_12)
theorem ok49 : fnOk Try.prog 49 c49 72 [.c 8 (some 5), .c 9 (some 3)] = true := by kernel_rfl

def k50_0 : ACode :=
 .seq (.region [
 ⟨(some 23), .ld (some 5) (.t 4), none⟩,
 ⟨(some 24), .build [.int .i64 0, .int .u64 0, .int .i64 0] [(0, 1, (.c (.int .i64 14)))], none⟩,
 ⟨none, .st 5 (.t 8) (.t 23), none⟩,
 ⟨none, .st 3 (.t 9) (.t 24), none⟩])
 (.ret)

def k50_1 : ACode :=
 .seq (.region [
 ⟨(some 47), .ld (some 5) (.t 4), none⟩,
 ⟨(some 48), .mv (.t 13), none⟩,
 ⟨(some 49), .build [.int .i64 0, .int .u64 0, .int .i64 0] [(0, 1, (.t 48))], none⟩,
 ⟨none, .st 5 (.t 8) (.t 47), none⟩,
 ⟨none, .st 3 (.t 9) (.t 49), none⟩])
 (.ret)

def k50_2 : ACode :=
 .seq (.region [
 ⟨(some 69), .ld (some 5) (.t 4), none⟩,
 ⟨(some 70), .mv (.t 13), none⟩,
 ⟨(some 71), .build [.int .i64 0, .int .u64 0, .int .i64 0] [(0, 1, (.t 70))], none⟩,
 ⟨none, .st 5 (.t 8) (.t 69), none⟩,
 ⟨none, .st 3 (.t 9) (.t 71), none⟩])
 (.ret)

def k50_3 : ACode :=
 .seq (.region [
 ⟨(some 67), .mv (.t 13), none⟩,
 ⟨(some 68), .bin .neq (.t 67) (.c (.int .i64 0)), none⟩])
 (.cond (.t 68)
 k50_2
 (.skip))

def k50_4 : ACode :=
 .seq (.drawn [
 (0, ⟨(some 51), .ld (some 5) (.t 4), none⟩),
 (1, ⟨(some 52), .fld 5 (.t 10), none⟩),
 (2, ⟨(some 53), .ld none (.t 52), none⟩),
 (5, ⟨(some 56), .fld 3 (.t 4), none⟩),
 (6, ⟨(some 57), .ld none (.t 56), none⟩),
 (7, ⟨(some 58), .fld 5 (.t 10), none⟩),
 (8, ⟨(some 59), .ld none (.t 58), none⟩),
 (9, ⟨(some 60), .bin .sub (.t 59) (.c (.int .i64 1)), none⟩),
 (10, ⟨(some 61), .ixs 5 (.t 57) (.t 60), none⟩),
 (11, ⟨(some 62), .fld 0 (.t 61), none⟩),
 (12, ⟨(some 63), .ld (some 4) (.t 62), none⟩),
 (3, ⟨(some 54), .bin .sub (.t 53) (.c (.int .i64 1)), none⟩),
 (4, ⟨(some 55), .mv (.t 12), none⟩),
 (13, ⟨(some 64), .call 34 [(.t 51), (.t 54), (.t 55), (.t 63)], none⟩),
 (14, ⟨(some 50), .mv (.t 64), none⟩),
 (15, ⟨(some 65), .ext (.t 50) 0, none⟩),
 (17, ⟨none, .st 5 (.t 11) (.t 65), none⟩),
 (16, ⟨(some 66), .ext (.t 50) 1, none⟩),
 (18, ⟨(some 13), .mv (.t 66), none⟩)]
 [[], [], [1], [2], [], [], [5], [], [7], [8], [6, 9], [10], [11], [0, 3, 4, 12], [13], [14], [14], [15, 13, 0, 1, 2, 3, 4, 5, 6, 7, 8, 9, 10, 11, 12, 13, 14, 15], [16, 17, 0, 1, 2, 3, 4, 5, 6, 7, 8, 9, 10, 11, 12, 13, 14, 15, 16, 17]] 0)
 k50_3

def k50_5 : ACode :=
 .seq (.seq (.region [
 ⟨(some 45), .mv (.t 13), none⟩,
 ⟨(some 46), .bin .neq (.t 45) (.c (.int .i64 0)), none⟩])
 (.cond (.t 46)
 k50_1
 (.skip)))
 k50_4

def k50_6 : ACode :=
 .seq (.region [
 ⟨(some 38), .ld (some 5) (.t 4), none⟩,
 ⟨(some 39), .mv (.t 1), none⟩,
 ⟨(some 40), .fld 2 (.t 6), none⟩,
 ⟨(some 41), .ld (some 1) (.t 40), none⟩,
 ⟨(some 42), .call 80 [(.t 38), (.t 39), (.t 41)], none⟩,
 ⟨(some 37), .mv (.t 42), none⟩,
 ⟨(some 43), .ext (.t 37) 0, none⟩,
 ⟨(some 44), .ext (.t 37) 1, none⟩,
 ⟨(some 12), .mv (.t 43), none⟩,
 ⟨(some 13), .mv (.t 44), none⟩])
 k50_5

def k50_7 : ACode :=
 .seq (.drawn [
 (0, ⟨(some 78), .ld (some 5) (.t 11), none⟩),
 (1, ⟨(some 79), .fld 8 (.t 10), none⟩),
 (2, ⟨(some 80), .ld none (.t 79), none⟩),
 (3, ⟨(some 81), .fld 6 (.t 10), none⟩),
 (4, ⟨(some 82), .ld none (.t 81), none⟩),
 (6, ⟨none, .st 5 (.t 8) (.t 78), none⟩),
 (5, ⟨(some 83), .build [.int .i64 0, .int .u64 0, .int .i64 0] [(1, 1, (.t 80)), (2, 1, (.t 82))], none⟩),
 (7, ⟨none, .st 3 (.t 9) (.t 83), none⟩)]
 [[], [], [1], [], [3], [2, 4], [0, 0], [5, 6, 0, 1, 2, 3, 4, 5, 6]] 0)
 (.ret)

def k50_8 : ACode :=
 .seq (.region [
 ⟨(some 72), .fld 4 (.t 11), none⟩,
 ⟨(some 73), .ld none (.t 72), none⟩,
 ⟨(some 74), .fld 1 (.t 7), none⟩,
 ⟨(some 75), .ld none (.t 74), none⟩,
 ⟨(some 76), .build [.int .i64 0, .int .i64 0, .int .i64 0, .int .i64 0, .int .i64 0, .int .i64 0, .int .i64 0, .bool false, .int .u64 0, .int .u64 0, .int .u64 0, .int .u64 0, .int .u64 0] [(0, 1, (.c (.int .i64 3)))], none⟩,
 ⟨(some 77), .ixs 13 (.t 73) (.t 75), none⟩,
 ⟨none, .st 13 (.t 77) (.t 76), none⟩])
 k50_7

def k50_9 : ACode :=
 .seq (.seq (.region [
 ⟨(some 27), .fld 2 (.t 6), none⟩,
 ⟨(some 28), .fld 0 (.t 27), none⟩,
 ⟨(some 29), .ld none (.t 28), none⟩,
 ⟨(some 30), .len false (.t 29), none⟩,
 ⟨(some 31), .bin .gtr (.t 30) (.c (.int .i64 0)), none⟩,
 ⟨(some 32), .mv (.t 31), none⟩,
 ⟨(some 33), .fld 5 (.t 10), (some (32, true))⟩,
 ⟨(some 34), .ld none (.t 33), (some (32, true))⟩,
 ⟨(some 35), .bin .gtr (.t 34) (.c (.int .i64 0)), (some (32, true))⟩,
 ⟨(some 36), .pick (.t 32) (.t 35) (.c (.bool false)), none⟩])
 (.cond (.t 36)
 k50_6
 (.skip)))
 k50_8

def k50_10 : ACode :=
 .seq (.region [
 ⟨(some 25), .ld (some 5) (.t 4), none⟩,
 ⟨(some 26), .call 22 [(.t 25)], none⟩,
 ⟨(some 11), .new [.int .i64 0, .int .i64 0, .int .i64 0, .lit (.slice none 0 0), .lit (.slice none 0 0)], none⟩,
 ⟨none, .st 5 (.t 11) (.t 26), none⟩])
 k50_9

def k50_11 : ACode :=
 .seq (.seq (.region [
 ⟨(some 20), .fld 7 (.t 10), none⟩,
 ⟨(some 21), .ld none (.t 20), none⟩,
 ⟨(some 22), .un .not (.t 21), none⟩])
 (.cond (.t 22)
 k50_0
 (.skip)))
 k50_10

def k50_12 : ACode :=
 .seq (.region [
 ⟨(some 14), .fld 4 (.t 4), none⟩,
 ⟨(some 15), .ld none (.t 14), none⟩,
 ⟨(some 16), .fld 1 (.t 7), none⟩,
 ⟨(some 17), .ld none (.t 16), none⟩,
 ⟨(some 18), .ixs 13 (.t 15) (.t 17), none⟩,
 ⟨(some 19), .ld (some 13) (.t 18), none⟩,
 ⟨(some 10), .new [.int .i64 0, .int .i64 0, .int .i64 0, .int .i64 0, .int .i64 0, .int .i64 0, .int .i64 0, .bool false, .int .u64 0, .int .u64 0, .int .u64 0, .int .u64 0, .int .u64 0], none⟩,
 ⟨none, .st 13 (.t 10) (.t 19), none⟩])
 k50_11

def c50 : ACode :=
 .seq (.region [
 ⟨(some 4), .box (.t 0), none⟩,
 ⟨(some 6), .box (.t 2), none⟩,
 ⟨(some 7), .box (.t 3), none⟩,
 ⟨(some 8), .new [.int .i64 0, .int .i64 0, .int .i64 0, .lit (.slice none 0 0), .lit (.slice none 0 0)], none⟩,
 ⟨(some 9), .new [.int .i64 0, .int .u64 0, .int .i64 0], none⟩])
 k50_12
theorem ok50 : fnOk Try.prog 50 c50 84 [.c 8 (some 5), .c 9 (some 3)] = true := by kernel_rfl

def k57_0 : ACode :=
 .seq (.region [
 ⟨(some 26), .ld (some 5) (.t 3), none⟩,
 ⟨none, .st 5 (.t 6) (.t 26), none⟩,
 ⟨(some 7), .mv (.c (.int .i64 0)), none⟩,
 ⟨(some 8), .mv (.c (.int .i64 1)), none⟩])
 (.ret)

def k57_1 : ACode :=
 .seq (.region [
 ⟨(some 39), .ld (some 5) (.t 3), none⟩,
 ⟨(some 40), .mv (.t 11), none⟩,
 ⟨none, .st 5 (.t 6) (.t 39), none⟩,
 ⟨(some 7), .mv (.c (.int .i64 0)), none⟩,
 ⟨(some 8), .mv (.t 40), none⟩])
 (.ret)

def k57_2 : ACode :=
 .seq (.region [
 ⟨(some 45), .ld (some 5) (.t 3), none⟩,
 ⟨none, .st 5 (.t 6) (.t 45), none⟩,
 ⟨(some 7), .mv (.c (.int .i64 0)), none⟩,
 ⟨(some 8), .mv (.c (.int .i64 7)), none⟩])
 (.ret)

def k57_3 : ACode :=
 .seq (.region [
 ⟨(some 51), .ld (some 5) (.t 3), none⟩,
 ⟨none, .st 5 (.t 6) (.t 51), none⟩,
 ⟨(some 7), .mv (.c (.int .i64 0)), none⟩,
 ⟨(some 8), .mv (.c (.int .i64 6)), none⟩])
 (.ret)

def k57_4 : ACode :=
 .seq (.region [
 ⟨(some 47), .fld 2 (.t 10), none⟩,
 ⟨(some 48), .ld none (.t 47), none⟩,
 ⟨(some 49), .call 48 [(.c (.int .i64 2)), (.t 48)], none⟩,
 ⟨(some 50), .un .not (.t 49), none⟩,
 ⟨(some 46), .mv (.t 50), none⟩])
 (.cond (.t 46)
 k57_3
 (.skip))

def k57_5 : ACode :=
 .seq (.region [
 ⟨(some 42), .fld 0 (.t 10), none⟩,
 ⟨(some 43), .ld none (.t 42), none⟩,
 ⟨(some 44), .bin .neq (.t 43) (.c (.int .i64 1)), none⟩,
 ⟨(some 41), .mv (.t 44), none⟩])
 (.cond (.t 41)
 k57_2
 k57_4)

def k57_6 : ACode :=
 .seq (.region [
 ⟨(some 62), .ld (some 5) (.t 3), none⟩,
 ⟨(some 63), .mv (.t 11), none⟩,
 ⟨none, .st 5 (.t 6) (.t 62), none⟩,
 ⟨(some 7), .mv (.c (.int .i64 0)), none⟩,
 ⟨(some 8), .mv (.t 63), none⟩])
 (.ret)

def k57_7 : ACode :=
 .seq (.region [
 ⟨(some 74), .ld (some 5) (.t 3), none⟩,
 ⟨none, .st 5 (.t 6) (.t 74), none⟩,
 ⟨(some 7), .mv (.c (.int .i64 0)), none⟩,
 ⟨(some 8), .mv (.c (.int .i64 1)), none⟩])
 (.ret)

def k57_8 : ACode :=
 .region [
 ⟨(some 86), .ld (some 5) (.t 3), none⟩,
 ⟨(some 87), .fld 4 (.t 5), none⟩,
 ⟨(some 88), .ld none (.t 87), none⟩,
 ⟨(some 89), .call 82 [(.t 86), (.t 88)], none⟩,
 ⟨(some 85), .mv (.t 89), none⟩,
 ⟨(some 90), .ext (.t 85) 0, none⟩,
 ⟨(some 91), .ext (.t 85) 1, none⟩,
 ⟨(some 17), .mv (.t 90), none⟩,
 ⟨(some 14), .mv (.t 91), none⟩]

def k57_9 : ACode :=
 .seq (.region [
 ⟨(some 109), .ld (some 5) (.t 3), none⟩,
 ⟨none, .st 5 (.t 6) (.t 109), none⟩,
 ⟨(some 7), .mv (.c (.int .i64 0)), none⟩,
 ⟨(some 8), .mv (.c (.int .i64 8)), none⟩])
 (.ret)

def k57_10 : ACode :=
 .seq (.region [
 ⟨(some 142), .ld (some 5) (.t 3), none⟩,
 ⟨(some 143), .mv (.t 16), none⟩,
 ⟨none, .st 5 (.t 6) (.t 142), none⟩,
 ⟨(some 7), .mv (.t 143), none⟩,
 ⟨(some 8), .mv (.c (.int .i64 0)), none⟩])
 (.ret)

def k57_11 : ACode :=
 .seq (.region [
 ⟨(some 132), .fld 3 (.t 3), none⟩,
 ⟨(some 133), .ld none (.t 132), none⟩,
 ⟨(some 134), .mv (.t 12), none⟩,
 ⟨(some 135), .fld 3 (.t 5), none⟩,
 ⟨(some 136), .ld none (.t 135), none⟩,
 ⟨(some 137), .mv (.t 16), none⟩,
 ⟨(some 138), .build [.int .i64 0, .int .i64 0, .int .i64 0, .int .i64 0] [(0, 1, (.t 136)), (1, 1, (.t 137)), (2, 1, (.c (.int .i64 7)))], none⟩,
 ⟨(some 139), .mv (.t 9), none⟩,
 ⟨(some 140), .build [.int .i64 0, .int .i64 0, .int .i64 0, .int .i64 0, .int .i64 0] [(0, 4, (.t 138)), (4, 1, (.t 139))], none⟩,
 ⟨(some 141), .ixs 5 (.t 133) (.t 134), none⟩,
 ⟨none, .st 5 (.t 141) (.t 140), none⟩])
 k57_10

def k57_12 : ACode :=
 .seq (.region [
 ⟨(some 125), .fld 4 (.t 3), none⟩,
 ⟨(some 126), .ld none (.t 125), none⟩,
 ⟨(some 127), .fld 1 (.t 10), none⟩,
 ⟨(some 128), .ld none (.t 127), none⟩,
 ⟨(some 129), .mv (.t 15), none⟩,
 ⟨(some 130), .ixs 13 (.t 126) (.t 128), none⟩,
 ⟨(some 131), .fld 4 (.t 130), none⟩,
 ⟨none, .st 1 (.t 131) (.t 129), none⟩])
 k57_11

def k57_13 : ACode :=
 .seq (.drawn [
 (0, ⟨(some 113), .fld 4 (.t 3), none⟩),
 (1, ⟨(some 114), .ld none (.t 113), none⟩),
 (3, ⟨(some 116), .fld 3 (.t 5), none⟩),
 (4, ⟨(some 117), .ld none (.t 116), none⟩),
 (5, ⟨(some 118), .fld 4 (.t 5), none⟩),
 (6, ⟨(some 119), .ld none (.t 118), none⟩),
 (7, ⟨(some 120), .mv (.t 17), none⟩),
 (8, ⟨(some 121), .call 81 [(.t 117), (.t 119), (.t 120)], none⟩),
 (2, ⟨(some 115), .mv (.t 16), none⟩),
 (9, ⟨(some 112), .mv (.t 121), none⟩),
 (10, ⟨(some 122), .ext (.t 112) 0, none⟩),
 (12, ⟨(some 124), .ixs 13 (.t 114) (.t 115), none⟩),
 (13, ⟨none, .st 13 (.t 124) (.t 122), none⟩),
 (11, ⟨(some 123), .ext (.t 112) 1, none⟩)]
 [[], [0], [], [], [3], [], [5], [], [4, 6, 7], [8], [9], [9], [1, 2, 0, 1, 2, 3, 4, 5, 6, 7, 8, 9, 10], [12, 10, 8, 0, 1, 2, 3, 4, 5, 6, 7, 8, 9, 10]] 0)
 k57_12

def k57_14 : ACode :=
 .seq (.region [
 ⟨(some 110), .ld (some 5) (.t 3), none⟩,
 ⟨(some 111), .call 22 [(.t 110)], none⟩,
 ⟨none, .st 5 (.t 3) (.t 111), none⟩])
 k57_13

def k57_15 : ACode :=
 .seq (.seq (.region [
 ⟨(some 92), .mv (.t 15), none⟩,
 ⟨(some 93), .fld 4 (.t 3), none⟩,
 ⟨(some 94), .ld none (.t 93), none⟩,
 ⟨(some 95), .fld 1 (.t 10), none⟩,
 ⟨(some 96), .ld none (.t 95), none⟩,
 ⟨(some 97), .ixs 13 (.t 94) (.t 96), none⟩,
 ⟨(some 98), .fld 3 (.t 97), none⟩,
 ⟨(some 99), .ld none (.t 98), none⟩,
 ⟨(some 100), .bin .gtr (.t 92) (.t 99), none⟩,
 ⟨(some 101), .mv (.t 100), none⟩,
 ⟨(some 102), .mv (.t 14), (some (101, false))⟩,
 ⟨(some 103), .un .not (.t 102), (some (101, false))⟩,
 ⟨(some 104), .pick (.t 101) (.c (.bool true)) (.t 103), none⟩,
 ⟨(some 105), .mv (.t 104), none⟩,
 ⟨(some 106), .mv (.t 16), (some (105, false))⟩,
 ⟨(some 107), .bin .lss (.t 106) (.c (.int .i64 0)), (some (105, false))⟩,
 ⟨(some 108), .pick (.t 105) (.c (.bool true)) (.t 107), none⟩])
 (.cond (.t 108)
 k57_9
 (.skip)))
 k57_14

def k57_16 : ACode :=
 .seq (.seq (.region [
 ⟨(some 82), .fld 3 (.t 5), none⟩,
 ⟨(some 83), .ld none (.t 82), none⟩,
 ⟨(some 84), .bin .eql (.t 83) (.c (.int .i64 2)), none⟩])
 (.cond (.t 84)
 k57_8
 (.skip)))
 k57_15

def k57_17 : ACode :=
 .seq (.region [
 ⟨(some 80), .ld (some 5) (.t 3), none⟩,
 ⟨(some 81), .call 29 [(.t 80)], none⟩,
 ⟨(some 16), .mv (.t 81), none⟩])
 (.seq (.region [
 ⟨(some 17), .mv (.c (.int .i64 0)), none⟩])
 k57_16)

def k57_18 : ACode :=
 .seq (.region [
 ⟨(some 75), .ld (some 5) (.t 3), none⟩,
 ⟨(some 76), .mv (.t 9), none⟩,
 ⟨(some 77), .call 24 [(.t 75), (.t 76)], none⟩,
 ⟨(some 78), .mv (.t 13), none⟩,
 ⟨(some 79), .bin .add (.t 77) (.t 78), none⟩,
 ⟨(some 15), .mv (.t 79), none⟩])
 k57_17

def k57_19 : ACode :=
 .seq (.seq (.region [
 ⟨(some 72), .mv (.t 14), none⟩,
 ⟨(some 73), .un .not (.t 72), none⟩])
 (.cond (.t 73)
 k57_7
 (.skip)))
 k57_18

def k57_20 : ACode :=
 .seq (.region [
 ⟨(some 65), .fld 3 (.t 5), none⟩,
 ⟨(some 66), .ld none (.t 65), none⟩,
 ⟨(some 67), .fld 4 (.t 5), none⟩,
 ⟨(some 68), .ld none (.t 67), none⟩,
 ⟨(some 69), .call 26 [(.t 66), (.t 68)], none⟩,
 ⟨(some 64), .mv (.t 69), none⟩,
 ⟨(some 70), .ext (.t 64) 0, none⟩,
 ⟨(some 71), .ext (.t 64) 1, none⟩,
 ⟨(some 13), .mv (.t 70), none⟩,
 ⟨(some 14), .mv (.t 71), none⟩])
 k57_19

def k57_21 : ACode :=
 .seq (.seq (.region [
 ⟨(some 60), .mv (.t 11), none⟩,
 ⟨(some 61), .bin .neq (.t 60) (.c (.int .i64 0)), none⟩])
 (.cond (.t 61)
 k57_6
 (.skip)))
 k57_20

def k57_22 : ACode :=
 .seq (.region [
 ⟨(some 53), .ld (some 5) (.t 3), none⟩,
 ⟨(some 54), .mv (.t 1), none⟩,
 ⟨(some 55), .fld 2 (.t 5), none⟩,
 ⟨(some 56), .ld (some 1) (.t 55), none⟩,
 ⟨(some 57), .call 80 [(.t 53), (.t 54), (.t 56)], none⟩,
 ⟨(some 52), .mv (.t 57), none⟩,
 ⟨(some 58), .ext (.t 52) 0, none⟩,
 ⟨(some 59), .ext (.t 52) 1, none⟩,
 ⟨(some 12), .mv (.t 58), none⟩,
 ⟨(some 11), .mv (.t 59), none⟩])
 k57_21

def k57_23 : ACode :=
 .seq (.block 0 (
 .seq (.region [
 ⟨(some 37), .mv (.t 11), none⟩,
 ⟨(some 38), .bin .neq (.t 37) (.c (.int .i64 0)), none⟩,
 ⟨(some 36), .mv (.t 38), none⟩])
 (.cond (.t 36)
 k57_1
 k57_5)))
 k57_22

def k57_24 : ACode :=
 .seq (.region [
 ⟨(some 28), .ld (some 5) (.t 3), none⟩,
 ⟨(some 29), .mv (.t 1), none⟩,
 ⟨(some 30), .fld 1 (.t 5), none⟩,
 ⟨(some 31), .ld (some 1) (.t 30), none⟩,
 ⟨(some 32), .call 47 [(.t 28), (.t 29), (.t 31)], none⟩,
 ⟨(some 27), .mv (.t 32), none⟩,
 ⟨(some 33), .ext (.t 27) 0, none⟩,
 ⟨(some 34), .ext (.t 27) 1, none⟩,
 ⟨(some 35), .ext (.t 27) 2, none⟩,
 ⟨(some 10), .new [.int .i64 0, .int .i64 0, .int .i64 0, .int .i64 0], none⟩,
 ⟨(some 9), .mv (.t 33), none⟩,
 ⟨none, .st 4 (.t 10) (.t 34), none⟩,
 ⟨(some 11), .mv (.t 35), none⟩])
 k57_23

def k57_25 : ACode :=
 .seq (.seq (.region [
 ⟨(some 18), .ld (some 6) (.t 5), none⟩,
 ⟨(some 19), .call 46 [(.t 18)], none⟩,
 ⟨(some 20), .un .not (.t 19), none⟩,
 ⟨(some 21), .mv (.t 20), none⟩,
 ⟨(some 22), .fld 0 (.t 5), (some (21, false))⟩,
 ⟨(some 23), .ld none (.t 22), (some (21, false))⟩,
 ⟨(some 24), .bin .neq (.t 23) (.c (.int .i64 1)), (some (21, false))⟩,
 ⟨(some 25), .pick (.t 21) (.c (.bool true)) (.t 24), none⟩])
 (.cond (.t 25)
 k57_0
 (.skip)))
 k57_24

def c57 : ACode :=
 .seq (.region [
 ⟨(some 3), .box (.t 0), none⟩,
 ⟨(some 5), .box (.t 2), none⟩,
 ⟨(some 6), .new [.int .i64 0, .int .i64 0, .int .i64 0, .lit (.slice none 0 0), .lit (.slice none 0 0)], none⟩,
 ⟨(some 7), .mv (.c (.int .i64 0)), none⟩,
 ⟨(some 8), .mv (.c (.int .i64 0)), none⟩])
 k57_25
theorem ok57 : fnOk Try.prog 57 c57 144 [.c 6 (some 5), .t 7, .t 8] = true := by kernel_rfl

def k65_0 : ACode :=
 .seq (.region [
 ⟨(some 7), .fld 0 (.t 4), none⟩,
 ⟨(some 8), .ld none (.t 7), none⟩,
 ⟨(some 9), .bin .eql (.t 8) (.c (.int .i64 2)), none⟩,
 ⟨(some 10), .mv (.t 9), none⟩,
 ⟨(some 11), .ld (some 5) (.t 3), (some (10, true))⟩,
 ⟨(some 12), .fld 1 (.t 4), (some (10, true))⟩,
 ⟨(some 13), .ld none (.t 12), (some (10, true))⟩,
 ⟨(some 14), .mv (.t 2), (some (10, true))⟩,
 ⟨(some 15), .call 90 [(.t 11), (.t 13), (.t 14)], (some (10, true))⟩,
 ⟨(some 16), .pick (.t 10) (.t 15) (.c (.bool false)), none⟩,
 ⟨(some 6), .mv (.t 16), none⟩])
 (.ret)

def c65 : ACode :=
 .seq (.region [
 ⟨(some 3), .box (.t 0), none⟩,
 ⟨(some 4), .box (.t 1), none⟩,
 ⟨(some 6), .mv (.c (.bool false)), none⟩])
 k65_0
theorem ok65 : fnOk Try.prog 65 c65 17 [.t 6] = true := by kernel_rfl

def k66_0 : ACode :=
 .seq (.region [
 ⟨(some 30), .ld (some 5) (.t 3), none⟩,
 ⟨none, .st 5 (.t 6) (.t 30), none⟩,
 ⟨(some 7), .mv (.c (.int .i64 1)), none⟩])
 (.ret)

def k66_1 : ACode :=
 .seq (.region [
 ⟨(some 42), .ld (some 5) (.t 3), none⟩,
 ⟨(some 43), .mv (.t 10), none⟩,
 ⟨none, .st 5 (.t 6) (.t 42), none⟩,
 ⟨(some 7), .mv (.t 43), none⟩])
 (.ret)

def k66_2 : ACode :=
 .region [
 ⟨(some 47), .ld (some 4) (.t 9), none⟩,
 ⟨(some 48), .fld 3 (.t 5), none⟩,
 ⟨(some 49), .ld none (.t 48), none⟩,
 ⟨(some 50), .call 91 [(.t 47), (.t 49)], none⟩,
 ⟨none, .st 4 (.t 9) (.t 50), none⟩]

def k66_3 : ACode :=
 .seq (.region [
 ⟨(some 63), .ld (some 5) (.t 3), none⟩,
 ⟨(some 64), .mv (.t 10), none⟩,
 ⟨none, .st 5 (.t 6) (.t 63), none⟩,
 ⟨(some 7), .mv (.t 64), none⟩])
 (.ret)

def k66_4 : ACode :=
 .seq (.region [
 ⟨(some 61), .mv (.t 10), none⟩,
 ⟨(some 62), .bin .neq (.t 61) (.c (.int .i64 0)), none⟩])
 (.cond (.t 62)
 k66_3
 (.skip))

def k66_5 : ACode :=
 .seq (.region [
 ⟨(some 55), .ld (some 4) (.t 9), none⟩,
 ⟨(some 56), .fld 4 (.t 5), none⟩,
 ⟨(some 57), .ld none (.t 56), none⟩,
 ⟨(some 58), .call 92 [(.t 55), (.t 57)], none⟩,
 ⟨(some 54), .mv (.t 58), none⟩,
 ⟨(some 59), .ext (.t 54) 0, none⟩,
 ⟨(some 60), .ext (.t 54) 1, none⟩,
 ⟨none, .st 4 (.t 9) (.t 59), none⟩,
 ⟨(some 10), .mv (.t 60), none⟩])
 k66_4

def k66_6 : ACode :=
 .seq (.region [
 ⟨(some 75), .ld (some 5) (.t 3), none⟩,
 ⟨(some 76), .mv (.t 10), none⟩,
 ⟨none, .st 5 (.t 6) (.t 75), none⟩,
 ⟨(some 7), .mv (.t 76), none⟩])
 (.ret)

def k66_7 : ACode :=
 .seq (.region [
 ⟨(some 80), .ld (some 5) (.t 3), none⟩,
 ⟨(some 81), .mv (.t 8), none⟩,
 ⟨(some 82), .mv (.t 11), none⟩,
 ⟨(some 83), .ld (some 4) (.t 9), none⟩,
 ⟨(some 84), .call 34 [(.t 80), (.t 81), (.t 82), (.t 83)], none⟩,
 ⟨(some 85), .ext (.t 84) 0, none⟩,
 ⟨(some 86), .ext (.t 84) 1, none⟩,
 ⟨none, .st 5 (.t 6) (.t 85), none⟩,
 ⟨(some 7), .mv (.t 86), none⟩])
 (.ret)

def k66_8 : ACode :=
 .seq (.region [
 ⟨(some 91), .ld (some 5) (.t 3), none⟩,
 ⟨none, .st 5 (.t 6) (.t 91), none⟩,
 ⟨(some 7), .mv (.c (.int .i64 1)), none⟩])
 (.ret)

def k66_9 : ACode :=
 .seq (.region [
 ⟨(some 92), .ld (some 5) (.t 3), none⟩,
 ⟨(some 93), .mv (.t 8), none⟩,
 ⟨(some 94), .mv (.t 11), none⟩,
 ⟨(some 95), .call 93 [(.t 92), (.t 93), (.t 94)], none⟩,
 ⟨none, .st 5 (.t 6) (.t 95), none⟩,
 ⟨(some 7), .mv (.c (.int .i64 0)), none⟩])
 (.ret)

def k66_10 : ACode :=
 .seq (.seq (.region [
 ⟨(some 87), .ld (some 5) (.t 3), none⟩,
 ⟨(some 88), .ld (some 4) (.t 9), none⟩,
 ⟨(some 89), .mv (.t 11), none⟩,
 ⟨(some 90), .call 65 [(.t 87), (.t 88), (.t 89)], none⟩])
 (.cond (.t 90)
 k66_8
 (.skip)))
 k66_9

def k66_11 : ACode :=
 .seq (.seq (.region [
 ⟨(some 77), .fld 0 (.t 5), none⟩,
 ⟨(some 78), .ld none (.t 77), none⟩,
 ⟨(some 79), .bin .neq (.t 78) (.c (.int .i64 4)), none⟩])
 (.cond (.t 79)
 k66_7
 (.skip)))
 k66_10

def k66_12 : ACode :=
 .seq (.seq (.region [
 ⟨(some 73), .mv (.t 10), none⟩,
 ⟨(some 74), .bin .neq (.t 73) (.c (.int .i64 0)), none⟩])
 (.cond (.t 74)
 k66_6
 (.skip)))
 k66_11

def k66_13 : ACode :=
 .seq (.region [
 ⟨(some 66), .ld (some 5) (.t 3), none⟩,
 ⟨(some 67), .mv (.t 1), none⟩,
 ⟨(some 68), .fld 2 (.t 5), none⟩,
 ⟨(some 69), .ld (some 1) (.t 68), none⟩,
 ⟨(some 70), .call 80 [(.t 66), (.t 67), (.t 69)], none⟩,
 ⟨(some 65), .mv (.t 70), none⟩,
 ⟨(some 71), .ext (.t 65) 0, none⟩,
 ⟨(some 72), .ext (.t 65) 1, none⟩,
 ⟨(some 11), .mv (.t 71), none⟩,
 ⟨(some 10), .mv (.t 72), none⟩])
 k66_12

def k66_14 : ACode :=
 .seq (.seq (.region [
 ⟨(some 51), .fld 0 (.t 5), none⟩,
 ⟨(some 52), .ld none (.t 51), none⟩,
 ⟨(some 53), .bin .eql (.t 52) (.c (.int .i64 3)), none⟩])
 (.cond (.t 53)
 k66_5
 (.skip)))
 k66_13

def k66_15 : ACode :=
 .seq (.seq (.region [
 ⟨(some 44), .fld 0 (.t 5), none⟩,
 ⟨(some 45), .ld none (.t 44), none⟩,
 ⟨(some 46), .bin .neq (.t 45) (.c (.int .i64 4)), none⟩])
 (.cond (.t 46)
 k66_2
 (.skip)))
 k66_14

def k66_16 : ACode :=
 .seq (.seq (.region [
 ⟨(some 40), .mv (.t 10), none⟩,
 ⟨(some 41), .bin .neq (.t 40) (.c (.int .i64 0)), none⟩])
 (.cond (.t 41)
 k66_1
 (.skip)))
 k66_15

def k66_17 : ACode :=
 .seq (.region [
 ⟨(some 32), .ld (some 5) (.t 3), none⟩,
 ⟨(some 33), .mv (.t 1), none⟩,
 ⟨(some 34), .fld 1 (.t 5), none⟩,
 ⟨(some 35), .ld (some 1) (.t 34), none⟩,
 ⟨(some 36), .call 47 [(.t 32), (.t 33), (.t 35)], none⟩,
 ⟨(some 31), .mv (.t 36), none⟩,
 ⟨(some 37), .ext (.t 31) 0, none⟩,
 ⟨(some 38), .ext (.t 31) 1, none⟩,
 ⟨(some 39), .ext (.t 31) 2, none⟩,
 ⟨(some 9), .new [.int .i64 0, .int .i64 0, .int .i64 0, .int .i64 0], none⟩,
 ⟨(some 8), .mv (.t 37), none⟩,
 ⟨none, .st 4 (.t 9) (.t 38), none⟩,
 ⟨(some 10), .mv (.t 39), none⟩])
 k66_16

def k66_18 : ACode :=
 .seq (.seq (.region [
 ⟨(some 12), .ld (some 6) (.t 5), none⟩,
 ⟨(some 13), .call 46 [(.t 12)], none⟩,
 ⟨(some 14), .un .not (.t 13), none⟩,
 ⟨(some 15), .mv (.t 14), none⟩,
 ⟨(some 16), .fld 0 (.t 5), (some (15, false))⟩,
 ⟨(some 17), .ld none (.t 16), (some (15, false))⟩,
 ⟨(some 18), .bin .neq (.t 17) (.c (.int .i64 2)), (some (15, false))⟩,
 ⟨(some 19), .mv (.t 18), (some (15, false))⟩,
 ⟨(some 20), .fld 0 (.t 5), (some (19, true))⟩,
 ⟨(some 21), .ld none (.t 20), (some (19, true))⟩,
 ⟨(some 22), .bin .neq (.t 21) (.c (.int .i64 3)), (some (19, true))⟩,
 ⟨(some 23), .pick (.t 19) (.t 22) (.c (.bool false)), (some (15, false))⟩,
 ⟨(some 24), .mv (.t 23), (some (15, false))⟩,
 ⟨(some 25), .fld 0 (.t 5), (some (24, true))⟩,
 ⟨(some 26), .ld none (.t 25), (some (24, true))⟩,
 ⟨(some 27), .bin .neq (.t 26) (.c (.int .i64 4)), (some (24, true))⟩,
 ⟨(some 28), .pick (.t 24) (.t 27) (.c (.bool false)), (some (15, false))⟩,
 ⟨(some 29), .pick (.t 15) (.c (.bool true)) (.t 28), none⟩])
 (.cond (.t 29)
 k66_0
 (.skip)))
 k66_17

def c66 : ACode :=
 .seq (.region [
 ⟨(some 3), .box (.t 0), none⟩,
 ⟨(some 5), .box (.t 2), none⟩,
 ⟨(some 6), .new [.int .i64 0, .int .i64 0, .int .i64 0, .lit (.slice none 0 0), .lit (.slice none 0 0)], none⟩,
 ⟨(some 7), .mv (.c (.int .i64 0)), none⟩])
 k66_18
theorem ok66 : fnOk Try.prog 66 c66 96 [.c 6 (some 5), .t 7] = true := by kernel_rfl

def k93_0 : ACode :=
 .region [
 ⟨(some 47), .fld 3 (.t 3), none⟩,
 ⟨(some 48), .ld none (.t 47), none⟩,
 ⟨(some 49), .mv (.t 9), none⟩,
 ⟨(some 50), .mv (.t 10), none⟩,
 ⟨(some 51), .mxn true [(.t 50), (.c (.int .i64 (-1)))], none⟩,
 ⟨(some 52), .ixs 5 (.t 48) (.t 49), none⟩,
 ⟨(some 53), .fld 4 (.t 52), none⟩,
 ⟨none, .st 1 (.t 53) (.t 51), none⟩]

def k93_1 : ACode :=
 .seq (.block 1 (
 .seq (.region [
 ⟨(some 44), .mv (.t 42), none⟩,
 ⟨(some 45), .ixs 1 (.t 40) (.t 42), none⟩,
 ⟨(some 46), .ld none (.t 45), none⟩,
 ⟨(some 9), .mv (.t 44), none⟩,
 ⟨(some 10), .mv (.t 46), none⟩])
 k93_0))
 (.region [
 ⟨(some 54), .bin .add (.t 42) (.c (.int .i64 1)), none⟩,
 ⟨(some 42), .mv (.t 54), none⟩])

def b93_2 : ACode :=
 .seq (.region [
 ⟨(some 43), .bin .lss (.t 42) (.t 41), none⟩])
 (.seq (.cond (.t 43)
 (.skip)
 (.exit 0))
 k93_1)

def k93_3 : ACode :=
 .region [
 ⟨(some 70), .fld 4 (.t 3), none⟩,
 ⟨(some 71), .ld none (.t 70), none⟩,
 ⟨(some 72), .mv (.t 11), none⟩,
 ⟨(some 73), .mv (.t 2), none⟩,
 ⟨(some 74), .bin .add (.t 73) (.c (.int .i64 1)), none⟩,
 ⟨(some 75), .ixs 13 (.t 71) (.t 72), none⟩,
 ⟨(some 76), .fld 5 (.t 75), none⟩,
 ⟨none, .st 1 (.t 76) (.t 74), none⟩]

def k93_4 : ACode :=
 .seq (.region [
 ⟨(some 61), .fld 4 (.t 3), none⟩,
 ⟨(some 62), .ld none (.t 61), none⟩,
 ⟨(some 63), .mv (.t 11), none⟩,
 ⟨(some 64), .ixs 13 (.t 62) (.t 63), none⟩,
 ⟨(some 65), .fld 5 (.t 64), none⟩,
 ⟨(some 66), .ld none (.t 65), none⟩,
 ⟨(some 67), .mv (.t 1), none⟩,
 ⟨(some 68), .bin .add (.t 67) (.c (.int .i64 1)), none⟩,
 ⟨(some 69), .bin .eql (.t 66) (.t 68), none⟩])
 (.cond (.t 69)
 k93_3
 (.skip))

def k93_5 : ACode :=
 .seq (.block 3 (
 .seq (.region [
 ⟨(some 60), .mv (.t 58), none⟩,
 ⟨(some 11), .mv (.t 60), none⟩])
 k93_4))
 (.region [
 ⟨(some 77), .bin .add (.t 58) (.c (.int .i64 1)), none⟩,
 ⟨(some 58), .mv (.t 77), none⟩])

def b93_6 : ACode :=
 .seq (.region [
 ⟨(some 59), .bin .lss (.t 58) (.t 57), none⟩])
 (.seq (.cond (.t 59)
 (.skip)
 (.exit 2))
 k93_5)

def k93_7 : ACode :=
 .seq (.seq (.region [
 ⟨(some 55), .fld 4 (.t 3), none⟩,
 ⟨(some 56), .ld none (.t 55), none⟩,
 ⟨(some 57), .len false (.t 56), none⟩,
 ⟨(some 58), .mv (.c (.int .i64 0)), none⟩])
 (.block 2 (
 .loop b93_6)))
 (.seq (.region [
 ⟨(some 78), .ld (some 5) (.t 3), none⟩,
 ⟨none, .st 5 (.t 6) (.t 78), none⟩])
 (.ret))

def k93_8 : ACode :=
 .seq (.seq (.region [
 ⟨(some 39), .fld 0 (.t 7), none⟩,
 ⟨(some 40), .ld none (.t 39), none⟩,
 ⟨(some 41), .len false (.t 40), none⟩,
 ⟨(some 42), .mv (.c (.int .i64 0)), none⟩])
 (.block 0 (
 .loop b93_2)))
 k93_7

def k93_9 : ACode :=
 .seq (.drawn [
 (0, ⟨(some 22), .fld 3 (.t 3), none⟩),
 (1, ⟨(some 23), .ld none (.t 22), none⟩),
 (3, ⟨(some 25), .fld 3 (.t 3), none⟩),
 (4, ⟨(some 26), .ld none (.t 25), none⟩),
 (6, ⟨(some 28), .fld 3 (.t 3), none⟩),
 (7, ⟨(some 29), .ld none (.t 28), none⟩),
 (8, ⟨(some 30), .mv (.t 1), none⟩),
 (9, ⟨(some 31), .ixs 5 (.t 29) (.t 30), none⟩),
 (10, ⟨(some 32), .fld 0 (.t 31), none⟩),
 (11, ⟨(some 33), .ld (some 4) (.t 32), none⟩),
 (2, ⟨(some 24), .mv (.t 2), none⟩),
 (13, ⟨(some 35), .ixs 5 (.t 23) (.t 24), none⟩),
 (14, ⟨(some 36), .fld 0 (.t 35), none⟩),
 (15, ⟨none, .st 4 (.t 36) (.t 33), none⟩),
 (5, ⟨(some 27), .mv (.t 1), none⟩),
 (12, ⟨(some 34), .build [.int .i64 0, .int .i64 0, .int .i64 0, .int .i64 0] [], none⟩),
 (16, ⟨(some 37), .ixs 5 (.t 26) (.t 27), none⟩),
 (17, ⟨(some 38), .fld 0 (.t 37), none⟩),
 (18, ⟨none, .st 4 (.t 38) (.t 34), none⟩)]
 [[], [0], [], [], [3], [], [], [6], [], [7, 8], [9], [10], [], [1, 2, 0, 1, 2, 6, 7, 8, 9, 10, 11], [13, 0, 1, 2, 6, 7, 8, 9, 10, 11], [14, 11, 0, 1, 2, 6, 7, 8, 9, 10, 11], [4, 5, 0, 1, 2, 3, 4, 5, 6, 7, 8, 9, 10, 11, 12, 13, 14, 15], [16, 0, 1, 2, 3, 4, 5, 6, 7, 8, 9, 10, 11, 12, 13, 14, 15], [17, 12, 15, 0, 1, 2, 3, 4, 5, 6, 7, 8, 9, 10, 11, 12, 13, 14, 15]] 0)
 k93_8

def k93_10 : ACode :=
 .seq (.region [
 ⟨(some 20), .ld (some 5) (.t 3), none⟩,
 ⟨(some 21), .call 22 [(.t 20)], none⟩,
 ⟨none, .st 5 (.t 3) (.t 21), none⟩])
 k93_9

def k93_11 : ACode :=
 .seq (.region [
 ⟨(some 13), .ld (some 5) (.t 3), none⟩,
 ⟨(some 14), .call 28 [(.t 13)], none⟩,
 ⟨(some 15), .mv (.t 1), none⟩,
 ⟨(some 16), .mv (.t 2), none⟩,
 ⟨(some 17), .call 109 [(.t 14), (.t 15), (.t 16)], none⟩,
 ⟨(some 12), .mv (.t 17), none⟩,
 ⟨(some 18), .ext (.t 12) 0, none⟩,
 ⟨(some 19), .ext (.t 12) 1, none⟩,
 ⟨(some 7), .new [.lit (.slice none 0 0)], none⟩,
 ⟨none, .st 1 (.t 7) (.t 18), none⟩,
 ⟨(some 8), .mv (.t 19), none⟩])
 k93_10

def c93 : ACode :=
 .seq (.region [
 ⟨(some 3), .box (.t 0), none⟩,
 ⟨(some 6), .new [.int .i64 0, .int .i64 0, .int .i64 0, .lit (.slice none 0 0), .lit (.slice none 0 0)], none⟩])
 k93_11
theorem ok93 : fnOk Try.prog 93 c93 79 [.c 6 (some 5)] = true := by kernel_rfl

end Go.Proofs.Ytipigjckoejfpaa.Ax
