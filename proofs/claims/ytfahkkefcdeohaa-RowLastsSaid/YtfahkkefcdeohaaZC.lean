/- Texts put behind one another: AxCLib, AxCBase, AxCLaw2. Conditions: none. -/
import Derived.Test.YtfahkkefcdeohaaAxEnterZ
import Derived.Test.YtfahkkefcdeohaaProg
import Derived.KernelRfl
set_option linter.unusedSimpArgs false
set_option linter.unusedVariables false
/- The code of functions of the program, for our abstract machine; each is tied to the program by a closed test. Written by gen.py. Conditions: none. -/
namespace Go.Proofs.Ytfahkkefcdeohaa.Ax
open Go Go.Ax
set_option maxRecDepth 100000

def c2 : ACode :=
 .wild
theorem ok2 : fnOk Try.prog 2 c2 1 [] = true := by kernel_rfl

end Go.Proofs.Ytfahkkefcdeohaa.Ax

/- The code of functions of the program, for our abstract machine; each is tied to the program by a closed test. Written by gen.py. Conditions: none. -/
namespace Go.Proofs.Ytfahkkefcdeohaa.Ax
open Go Go.Ax
set_option maxRecDepth 100000

def k9_0 : ACode :=
 .cond (.t 9)
 (.seq (.region [
 ⟨(some 6), .mv (.c (.bool false)), none⟩])
 (.ret))
 (.skip)

def k9_1 : ACode :=
 .seq (.region [
 ⟨(some 16), .mv (.t 0), none⟩,
 ⟨(some 17), .mv (.t 0), none⟩,
 ⟨(some 18), .nck (.t 16), none⟩,
 ⟨(some 19), .fld 16 (.t 18), none⟩,
 ⟨none, .st 1 (.t 19) (.c (.bool true)), none⟩,
 ⟨(some 20), .nck (.t 17), none⟩,
 ⟨(some 21), .fld 17 (.t 20), none⟩,
 ⟨none, .st 1 (.t 21) (.c (.bool false)), none⟩])
 (.seq (.region [
 ⟨(some 6), .mv (.c (.bool true)), none⟩])
 (.ret))

def k9_2 : ACode :=
 .seq (.region [
 ⟨(some 10), .mv (.t 0), none⟩,
 ⟨(some 11), .mv (.t 1), none⟩,
 ⟨(some 12), .mv (.t 2), none⟩,
 ⟨(some 13), .nck (.t 10), none⟩,
 ⟨(some 14), .fld 8 (.t 13), none⟩,
 ⟨(some 15), .ixa 8 1 (.t 14) (.t 11), none⟩,
 ⟨none, .st 1 (.t 15) (.t 12), none⟩])
 k9_1

def k9_3 : ACode :=
 .seq (.seq (.region [
 ⟨(some 7), .mv (.t 1), none⟩,
 ⟨(some 8), .call 44 [(.t 7)], none⟩,
 ⟨(some 9), .un .not (.t 8), none⟩])
 k9_0)
 k9_2

def c9 : ACode :=
 .seq (.region [
 ⟨(some 6), .mv (.c (.bool false)), none⟩])
 k9_3
theorem ok9 : fnOk Try.prog 9 c9 22 [.t 6] = true := by kernel_rfl

def c10 : ACode :=
 .region [
 ⟨(some 2), .mv (.t 0), none⟩,
 ⟨(some 3), .mv (.t 0), none⟩,
 ⟨(some 4), .nck (.t 3), none⟩,
 ⟨(some 5), .fld 17 (.t 4), none⟩,
 ⟨(some 6), .ld none (.t 5), none⟩,
 ⟨(some 7), .mv (.t 6), none⟩,
 ⟨(some 8), .mv (.t 0), (some (7, false))⟩,
 ⟨(some 9), .nck (.t 8), (some (7, false))⟩,
 ⟨(some 10), .fld 16 (.t 9), (some (7, false))⟩,
 ⟨(some 11), .ld none (.t 10), (some (7, false))⟩,
 ⟨(some 12), .pick (.t 7) (.c (.bool true)) (.t 11), none⟩,
 ⟨(some 13), .nck (.t 2), none⟩,
 ⟨(some 14), .fld 17 (.t 13), none⟩,
 ⟨none, .st 1 (.t 14) (.t 12), none⟩]
theorem ok10 : fnOk Try.prog 10 c10 15 [] = true := by kernel_rfl

def k11_0 : ACode :=
 .seq (.region [
 ⟨(some 3), .mv (.t 0), none⟩,
 ⟨(some 4), .nck (.t 3), none⟩,
 ⟨(some 5), .fld 17 (.t 4), none⟩,
 ⟨(some 6), .ld none (.t 5), none⟩,
 ⟨(some 7), .mv (.t 6), none⟩,
 ⟨(some 8), .mv (.t 0), (some (7, true))⟩,
 ⟨(some 9), .call 45 [(.t 8)], (some (7, true))⟩,
 ⟨(some 10), .pick (.t 7) (.t 9) (.c (.bool false)), none⟩,
 ⟨(some 2), .mv (.t 10), none⟩])
 (.ret)

def c11 : ACode :=
 .seq (.region [
 ⟨(some 2), .mv (.c (.bool false)), none⟩])
 k11_0
theorem ok11 : fnOk Try.prog 11 c11 11 [.t 2] = true := by kernel_rfl

def k12_0 : ACode :=
 .seq (.region [
 ⟨(some 13), .mv (.t 0), none⟩,
 ⟨(some 14), .call 45 [(.t 13)], none⟩,
 ⟨(some 4), .mv (.t 14), none⟩])
 (.ret)

def k12_1 : ACode :=
 .seq (.region [
 ⟨(some 22), .mv (.t 0), none⟩,
 ⟨(some 23), .mv (.t 0), none⟩,
 ⟨(some 24), .nck (.t 22), none⟩,
 ⟨(some 25), .fld 16 (.t 24), none⟩,
 ⟨none, .st 1 (.t 25) (.c (.bool false)), none⟩,
 ⟨(some 26), .nck (.t 23), none⟩,
 ⟨(some 27), .fld 17 (.t 26), none⟩,
 ⟨none, .st 1 (.t 27) (.c (.bool false)), none⟩])
 (.seq (.region [
 ⟨(some 4), .mv (.c (.bool true)), none⟩])
 (.ret))

def k12_2 : ACode :=
 .seq (.region [
 ⟨(some 15), .mv (.t 0), none⟩,
 ⟨(some 16), .mv (.t 0), none⟩,
 ⟨(some 17), .nck (.t 16), none⟩,
 ⟨(some 18), .fld 0 (.t 17), none⟩,
 ⟨(some 19), .ld (some 8) (.t 18), none⟩,
 ⟨(some 20), .nck (.t 15), none⟩,
 ⟨(some 21), .fld 8 (.t 20), none⟩,
 ⟨none, .st 8 (.t 21) (.t 19), none⟩])
 k12_1

def k12_3 : ACode :=
 .seq (.seq (.region [
 ⟨(some 5), .mv (.t 1), none⟩,
 ⟨(some 6), .mv (.t 5), none⟩,
 ⟨(some 7), .mv (.t 0), (some (6, false))⟩,
 ⟨(some 8), .nck (.t 7), (some (6, false))⟩,
 ⟨(some 9), .fld 16 (.t 8), (some (6, false))⟩,
 ⟨(some 10), .ld none (.t 9), (some (6, false))⟩,
 ⟨(some 11), .un .not (.t 10), (some (6, false))⟩,
 ⟨(some 12), .pick (.t 6) (.c (.bool true)) (.t 11), none⟩])
 (.cond (.t 12)
 k12_0
 (.skip)))
 k12_2

def c12 : ACode :=
 .seq (.region [
 ⟨(some 4), .mv (.c (.bool false)), none⟩])
 k12_3
theorem ok12 : fnOk Try.prog 12 c12 28 [.t 4] = true := by kernel_rfl

def k43_0 : ACode :=
 .cond (.t 7)
 (.seq (.region [
 ⟨(some 4), .mv (.c (.int .u64 0)), none⟩])
 (.ret))
 (.skip)

def k43_1 : ACode :=
 .seq (.region [
 ⟨(some 8), .mv (.t 0), none⟩,
 ⟨(some 9), .mv (.t 1), none⟩,
 ⟨(some 10), .nck (.t 8), none⟩,
 ⟨(some 11), .fld 8 (.t 10), none⟩,
 ⟨(some 12), .ixa 8 1 (.t 11) (.t 9), none⟩,
 ⟨(some 13), .ld none (.t 12), none⟩,
 ⟨(some 4), .mv (.t 13), none⟩])
 (.ret)

def k43_2 : ACode :=
 .seq (.seq (.region [
 ⟨(some 5), .mv (.t 1), none⟩,
 ⟨(some 6), .call 44 [(.t 5)], none⟩,
 ⟨(some 7), .un .not (.t 6), none⟩])
 k43_0)
 k43_1

def c43 : ACode :=
 .seq (.region [
 ⟨(some 4), .mv (.c (.int .u64 0)), none⟩])
 k43_2
theorem ok43 : fnOk Try.prog 43 c43 14 [.t 4] = true := by kernel_rfl

def k44_0 : ACode :=
 .seq (.region [
 ⟨(some 3), .mv (.t 0), none⟩,
 ⟨(some 4), .bin .geq (.t 3) (.c (.int .i64 0)), none⟩,
 ⟨(some 5), .mv (.t 4), none⟩,
 ⟨(some 6), .mv (.t 0), (some (5, true))⟩,
 ⟨(some 7), .bin .lss (.t 6) (.c (.int .i64 8)), (some (5, true))⟩,
 ⟨(some 8), .pick (.t 5) (.t 7) (.c (.bool false)), none⟩,
 ⟨(some 2), .mv (.t 8), none⟩])
 (.ret)

def c44 : ACode :=
 .seq (.region [
 ⟨(some 2), .mv (.c (.bool false)), none⟩])
 k44_0
theorem ok44 : fnOk Try.prog 44 c44 9 [.t 2] = true := by kernel_rfl

def k45_0 : ACode :=
 .cond (.t 7)
 (.seq (.region [
 ⟨(some 2), .mv (.c (.bool false)), none⟩])
 (.ret))
 (.skip)

def k45_1 : ACode :=
 .seq (.region [
 ⟨(some 15), .mv (.t 0), none⟩,
 ⟨(some 16), .mv (.t 0), none⟩,
 ⟨(some 17), .nck (.t 15), none⟩,
 ⟨(some 18), .fld 16 (.t 17), none⟩,
 ⟨none, .st 1 (.t 18) (.c (.bool false)), none⟩,
 ⟨(some 19), .nck (.t 16), none⟩,
 ⟨(some 20), .fld 17 (.t 19), none⟩,
 ⟨none, .st 1 (.t 20) (.c (.bool false)), none⟩])
 (.seq (.region [
 ⟨(some 2), .mv (.c (.bool true)), none⟩])
 (.ret))

def k45_2 : ACode :=
 .seq (.region [
 ⟨(some 8), .mv (.t 0), none⟩,
 ⟨(some 9), .mv (.t 0), none⟩,
 ⟨(some 10), .nck (.t 9), none⟩,
 ⟨(some 11), .fld 8 (.t 10), none⟩,
 ⟨(some 12), .ld (some 8) (.t 11), none⟩,
 ⟨(some 13), .nck (.t 8), none⟩,
 ⟨(some 14), .fld 0 (.t 13), none⟩,
 ⟨none, .st 8 (.t 14) (.t 12), none⟩])
 k45_1

def k45_3 : ACode :=
 .seq (.seq (.region [
 ⟨(some 3), .mv (.t 0), none⟩,
 ⟨(some 4), .nck (.t 3), none⟩,
 ⟨(some 5), .fld 16 (.t 4), none⟩,
 ⟨(some 6), .ld none (.t 5), none⟩,
 ⟨(some 7), .un .not (.t 6), none⟩])
 k45_0)
 k45_2

def c45 : ACode :=
 .seq (.region [
 ⟨(some 2), .mv (.c (.bool false)), none⟩])
 k45_3
theorem ok45 : fnOk Try.prog 45 c45 21 [.t 2] = true := by kernel_rfl

end Go.Proofs.Ytfahkkefcdeohaa.Ax

/- The code of functions of the program, for our abstract machine; each is tied to the program by a closed test. Written by gen.py. Conditions: none. -/
namespace Go.Proofs.Ytfahkkefcdeohaa.Ax
open Go Go.Ax
set_option maxRecDepth 100000

def k3_0 : ACode :=
 .cond (.t 14)
 (.seq (.region [
 ⟨(some 4), .mv (.c (.bool false)), none⟩])
 (.ret))
 (.skip)

def k3_1 : ACode :=
 .cond (.t 17)
 (.seq (.region [
 ⟨(some 4), .mv (.c (.bool true)), none⟩])
 (.ret))
 (.skip)

def k3_2 : ACode :=
 .seq (.region [
 ⟨(some 54), .mv (.t 7), none⟩,
 ⟨(some 55), .ld (some 8) (.t 6), none⟩,
 ⟨(some 56), .bsl 8 1 [.int .u64 0, .int .u64 0, .int .u64 0, .int .u64 0, .int .u64 0, .int .u64 0, .int .u64 0, .int .u64 0] [(0, (.t 55))], none⟩,
 ⟨(some 57), .app 8 64 (.t 54) (.t 56), none⟩,
 ⟨(some 7), .mv (.t 57), none⟩])
 (.region [
 ⟨(some 9), .mv (.c (.int .i64 (-1))), none⟩])

def k3_3 : ACode :=
 .seq (.region [
 ⟨(some 48), .fld 1 (.t 11), none⟩,
 ⟨(some 49), .ld none (.t 48), none⟩,
 ⟨(some 50), .bin .and (.t 49) (.c (.int .i64 7)), none⟩,
 ⟨(some 51), .fld 2 (.t 11), none⟩,
 ⟨(some 52), .ld none (.t 51), none⟩,
 ⟨(some 53), .ixa 8 1 (.t 6) (.t 50), none⟩,
 ⟨none, .st 1 (.t 53) (.t 52), none⟩])
 k3_2

def k3_4 : ACode :=
 .seq (.region [
 ⟨(some 42), .mv (.t 5), none⟩,
 ⟨(some 43), .fld 1 (.t 11), none⟩,
 ⟨(some 44), .ld none (.t 43), none⟩,
 ⟨(some 45), .fld 2 (.t 11), none⟩,
 ⟨(some 46), .ld none (.t 45), none⟩,
 ⟨(some 47), .call 9 [(.t 42), (.t 44), (.t 46)], none⟩])
 (.cond (.t 47)
 k3_3
 (.skip))

def k3_5 : ACode :=
 .region [
 ⟨(some 62), .mv (.t 7), none⟩,
 ⟨(some 63), .len false (.t 62), none⟩,
 ⟨(some 64), .bin .sub (.t 63) (.c (.int .i64 1)), none⟩,
 ⟨(some 9), .mv (.t 64), none⟩]

def k3_6 : ACode :=
 .cond (.t 38)
 (.region [
 ⟨(some 39), .mv (.t 9), none⟩,
 ⟨(some 8), .mv (.t 39), none⟩])
 (.skip)

def k3_7 : ACode :=
 .seq (.region [
 ⟨(some 35), .mv (.t 5), none⟩,
 ⟨(some 36), .call 11 [(.t 35)], none⟩])
 (.seq (.region [
 ⟨(some 37), .mv (.t 9), none⟩,
 ⟨(some 38), .bin .geq (.t 37) (.c (.int .i64 0)), none⟩])
 k3_6)

def k3_8 : ACode :=
 .cond (.t 58)
 (.seq (.region [
 ⟨(some 60), .mv (.t 5), none⟩,
 ⟨(some 61), .call 10 [(.t 60)], none⟩])
 k3_5)
 k3_7

def k3_9 : ACode :=
 .cond (.t 40)
 k3_4
 (.seq (.region [
 ⟨(some 59), .bin .eql (.t 34) (.c (.int .i64 1)), none⟩,
 ⟨(some 58), .mv (.t 59), none⟩])
 k3_8)

def k3_10 : ACode :=
 .block 2 (
 .seq (.region [
 ⟨(some 41), .bin .eql (.t 34) (.c (.int .i64 0)), none⟩,
 ⟨(some 40), .mv (.t 41), none⟩])
 k3_9)

def k3_11 : ACode :=
 .seq (.block 1 (
 .seq (.region [
 ⟨(some 29), .mv (.t 0), none⟩,
 ⟨(some 30), .mv (.t 10), none⟩,
 ⟨(some 31), .ixs 3 (.t 29) (.t 30), none⟩,
 ⟨(some 32), .ld (some 3) (.t 31), none⟩,
 ⟨(some 11), .new [.int .i64 0, .int .i64 0, .int .u64 0], none⟩,
 ⟨none, .st 3 (.t 11) (.t 32), none⟩])
 (.seq (.region [
 ⟨(some 33), .fld 0 (.t 11), none⟩,
 ⟨(some 34), .ld none (.t 33), none⟩])
 k3_10)))
 (.region [
 ⟨(some 27), .mv (.t 10), none⟩,
 ⟨(some 28), .bin .add (.t 27) (.c (.int .i64 1)), none⟩,
 ⟨(some 10), .mv (.t 28), none⟩])

def b3_12 : ACode :=
 .seq (.seq (.region [
 ⟨(some 23), .mv (.t 10), none⟩,
 ⟨(some 24), .mv (.t 0), none⟩,
 ⟨(some 25), .len false (.t 24), none⟩,
 ⟨(some 26), .bin .lss (.t 23) (.t 25), none⟩])
 (.cond (.t 26)
 (.skip)
 (.exit 0)))
 k3_11

def k3_13 : ACode :=
 .seq (.drawn [
 (0, ⟨(some 84), .mv (.t 5), none⟩),
 (1, ⟨(some 85), .nck (.t 84), none⟩),
 (2, ⟨(some 86), .fld 8 (.t 85), none⟩),
 (3, ⟨(some 87), .ld (some 8) (.t 86), none⟩),
 (4, ⟨(some 88), .mv (.t 5), none⟩),
 (5, ⟨(some 89), .nck (.t 88), none⟩),
 (6, ⟨(some 90), .fld 0 (.t 89), none⟩),
 (7, ⟨(some 91), .ld (some 8) (.t 90), none⟩),
 (8, ⟨(some 92), .eqs false [0, 0, 0, 0, 0, 0, 0, 0] (.t 87) (.t 91), none⟩),
 (9, ⟨(some 93), .mv (.t 92), none⟩),
 (10, ⟨(some 94), .mv (.t 1), (some (93, true))⟩),
 (11, ⟨(some 95), .un .not (.t 94), (some (93, true))⟩),
 (12, ⟨(some 96), .mv (.t 95), (some (93, true))⟩),
 (13, ⟨(some 97), .mv (.t 5), (some (96, false))⟩),
 (14, ⟨(some 98), .nck (.t 97), (some (96, false))⟩),
 (15, ⟨(some 99), .fld 8 (.t 98), (some (96, false))⟩),
 (16, ⟨(some 100), .ld (some 8) (.t 99), (some (96, false))⟩),
 (17, ⟨(some 101), .ld (some 8) (.t 6), (some (96, false))⟩),
 (18, ⟨(some 102), .eqs false [0, 0, 0, 0, 0, 0, 0, 0] (.t 100) (.t 101), (some (96, false))⟩),
 (19, ⟨(some 103), .pick (.t 96) (.c (.bool true)) (.t 102), (some (93, true))⟩),
 (20, ⟨(some 104), .pick (.t 93) (.t 103) (.c (.bool false)), none⟩),
 (21, ⟨(some 4), .mv (.t 104), none⟩)]
 [[], [0], [1], [2], [], [4], [5], [6], [3, 7], [8], [9], [10, 9], [11, 9, 9], [12], [13, 12], [14, 12], [15, 12], [12], [16, 17, 12], [12, 18, 9], [9, 19], [20, 12, 0, 1, 2, 3, 4, 5, 6, 7, 8, 9, 10, 11, 12, 13, 14, 15, 16, 17, 18, 19, 20]] 0)
 (.ret)

def k3_14 : ACode :=
 .seq (.block 4 (
 .seq (.drawn [
 (0, ⟨(some 75), .mv (.t 5), none⟩),
 (1, ⟨(some 76), .nck (.t 75), none⟩),
 (2, ⟨(some 77), .fld 0 (.t 76), none⟩),
 (3, ⟨(some 78), .ld (some 8) (.t 77), none⟩),
 (4, ⟨(some 79), .mv (.t 7), none⟩),
 (5, ⟨(some 80), .mv (.t 12), none⟩),
 (6, ⟨(some 81), .ixs 8 (.t 79) (.t 80), none⟩),
 (7, ⟨(some 82), .ld (some 8) (.t 81), none⟩),
 (8, ⟨(some 83), .eqs false [0, 0, 0, 0, 0, 0, 0, 0] (.t 78) (.t 82), none⟩)]
 [[], [0], [1], [2], [], [], [4, 5], [6], [3, 7]] 0)
 (.cond (.t 83)
 k3_13
 (.skip))))
 (.region [
 ⟨(some 73), .mv (.t 12), none⟩,
 ⟨(some 74), .bin .add (.t 73) (.c (.int .i64 1)), none⟩,
 ⟨(some 12), .mv (.t 74), none⟩])

def b3_15 : ACode :=
 .seq (.seq (.region [
 ⟨(some 69), .mv (.t 12), none⟩,
 ⟨(some 70), .mv (.t 7), none⟩,
 ⟨(some 71), .len false (.t 70), none⟩,
 ⟨(some 72), .bin .lss (.t 69) (.t 71), none⟩])
 (.cond (.t 72)
 (.skip)
 (.exit 3)))
 k3_14

def k3_16 : ACode :=
 .seq (.seq (.region [
 ⟨(some 68), .mv (.t 8), none⟩,
 ⟨(some 12), .mv (.t 68), none⟩])
 (.block 3 (
 .loop b3_15)))
 (.seq (.region [
 ⟨(some 4), .mv (.c (.bool false)), none⟩])
 (.ret))

def k3_17 : ACode :=
 .seq (.region [
 ⟨(some 65), .mv (.t 5), none⟩,
 ⟨(some 66), .mv (.t 1), none⟩,
 ⟨(some 67), .call 12 [(.t 65), (.t 66)], none⟩])
 k3_16

def k3_18 : ACode :=
 .seq (.seq (.region [
 ⟨(some 10), .mv (.c (.int .i64 0)), none⟩])
 (.block 0 (
 .loop b3_12)))
 k3_17

def k3_19 : ACode :=
 .seq (.region [
 ⟨(some 8), .mv (.c (.int .i64 0)), none⟩])
 (.seq (.region [
 ⟨(some 9), .mv (.c (.int .i64 (-1))), none⟩])
 k3_18)

def k3_20 : ACode :=
 .seq (.region [
 ⟨(some 21), .ld (some 8) (.t 6), none⟩,
 ⟨(some 22), .bsl 8 1 [.int .u64 0, .int .u64 0, .int .u64 0, .int .u64 0, .int .u64 0, .int .u64 0, .int .u64 0, .int .u64 0] [(0, (.t 21))], none⟩,
 ⟨(some 7), .mv (.t 22), none⟩])
 k3_19

def k3_21 : ACode :=
 .seq (.region [
 ⟨(some 20), .build [.int .u64 0, .int .u64 0, .int .u64 0, .int .u64 0, .int .u64 0, .int .u64 0, .int .u64 0, .int .u64 0] [], none⟩,
 ⟨(some 6), .new [.int .u64 0, .int .u64 0, .int .u64 0, .int .u64 0, .int .u64 0, .int .u64 0, .int .u64 0, .int .u64 0], none⟩,
 ⟨none, .st 8 (.t 6) (.t 20), none⟩])
 k3_20

def k3_22 : ACode :=
 .seq (.region [
 ⟨(some 18), .build [.int .u64 0, .int .u64 0, .int .u64 0, .int .u64 0, .int .u64 0, .int .u64 0, .int .u64 0, .int .u64 0, .int .u64 0, .int .u64 0, .int .u64 0, .int .u64 0, .int .u64 0, .int .u64 0, .int .u64 0, .int .u64 0, .bool false, .bool false] [], none⟩,
 ⟨(some 19), .box (.t 18), none⟩,
 ⟨(some 5), .mv (.t 19), none⟩])
 k3_21

def k3_23 : ACode :=
 .seq (.seq (.region [
 ⟨(some 15), .mv (.t 0), none⟩,
 ⟨(some 16), .len false (.t 15), none⟩,
 ⟨(some 17), .bin .gtr (.t 16) (.c (.int .i64 60)), none⟩])
 k3_1)
 k3_22

def k3_24 : ACode :=
 .seq (.seq (.region [
 ⟨(some 13), .call 8 [], none⟩,
 ⟨(some 14), .un .not (.t 13), none⟩])
 k3_0)
 k3_23

def c3 : ACode :=
 .seq (.region [
 ⟨(some 4), .mv (.c (.bool false)), none⟩])
 k3_24
theorem ok3 : fnOk Try.prog 3 c3 105 [.t 4] = true := by kernel_rfl

def k8_0 : ACode :=
 .seq (.region [
 ⟨(some 13), .mv (.t 2), none⟩,
 ⟨(some 14), .mv (.t 13), none⟩,
 ⟨(some 15), .mv (.t 3), (some (14, true))⟩,
 ⟨(some 16), .bin .eql (.t 15) (.c (.int .u64 7)), (some (14, true))⟩,
 ⟨(some 17), .pick (.t 14) (.t 16) (.c (.bool false)), none⟩,
 ⟨(some 18), .mv (.t 17), none⟩,
 ⟨(some 19), .mv (.t 4), (some (18, true))⟩,
 ⟨(some 20), .pick (.t 18) (.t 19) (.c (.bool false)), none⟩,
 ⟨(some 21), .mv (.t 20), none⟩,
 ⟨(some 22), .mv (.t 1), (some (21, true))⟩,
 ⟨(some 23), .call 43 [(.t 22), (.c (.int .i64 3))], (some (21, true))⟩,
 ⟨(some 24), .bin .eql (.t 23) (.c (.int .u64 0)), (some (21, true))⟩,
 ⟨(some 25), .pick (.t 21) (.t 24) (.c (.bool false)), none⟩,
 ⟨(some 26), .mv (.t 25), none⟩,
 ⟨(some 27), .mv (.t 1), (some (26, true))⟩,
 ⟨(some 28), .nck (.t 27), (some (26, true))⟩,
 ⟨(some 29), .ld (some 18) (.t 28), (some (26, true))⟩,
 ⟨(some 30), .build [.int .u64 0, .int .u64 0, .int .u64 0, .int .u64 0, .int .u64 0, .int .u64 0, .int .u64 0, .int .u64 0, .int .u64 0, .int .u64 0, .int .u64 0, .int .u64 0, .int .u64 0, .int .u64 0, .int .u64 0, .int .u64 0, .bool false, .bool false] [], (some (26, true))⟩,
 ⟨(some 31), .eqs false [0, 0, 0, 0, 0, 0, 0, 0, 0, 0, 0, 0, 0, 0, 0, 0, 1, 1] (.t 29) (.t 30), (some (26, true))⟩,
 ⟨(some 32), .pick (.t 26) (.t 31) (.c (.bool false)), none⟩,
 ⟨(some 0), .mv (.t 32), none⟩])
 (.ret)

def k8_1 : ACode :=
 .seq (.region [
 ⟨(some 11), .mv (.t 1), none⟩,
 ⟨(some 12), .call 12 [(.t 11), (.c (.bool false))], none⟩,
 ⟨(some 4), .mv (.t 12), none⟩])
 k8_0

def k8_2 : ACode :=
 .seq (.region [
 ⟨(some 9), .mv (.t 1), none⟩,
 ⟨(some 10), .call 43 [(.t 9), (.c (.int .i64 3))], none⟩,
 ⟨(some 3), .mv (.t 10), none⟩])
 k8_1

def k8_3 : ACode :=
 .seq (.region [
 ⟨(some 7), .mv (.t 1), none⟩,
 ⟨(some 8), .call 9 [(.t 7), (.c (.int .i64 3)), (.c (.int .u64 7))], none⟩,
 ⟨(some 2), .mv (.t 8), none⟩])
 k8_2

def k8_4 : ACode :=
 .seq (.region [
 ⟨(some 5), .build [.int .u64 0, .int .u64 0, .int .u64 0, .int .u64 0, .int .u64 0, .int .u64 0, .int .u64 0, .int .u64 0, .int .u64 0, .int .u64 0, .int .u64 0, .int .u64 0, .int .u64 0, .int .u64 0, .int .u64 0, .int .u64 0, .bool false, .bool false] [], none⟩,
 ⟨(some 6), .box (.t 5), none⟩,
 ⟨(some 1), .mv (.t 6), none⟩])
 k8_3

def c8 : ACode :=
 .seq (.region [
 ⟨(some 0), .mv (.c (.bool false)), none⟩])
 k8_4
theorem ok8 : fnOk Try.prog 8 c8 33 [.t 0] = true := by kernel_rfl

end Go.Proofs.Ytfahkkefcdeohaa.Ax
