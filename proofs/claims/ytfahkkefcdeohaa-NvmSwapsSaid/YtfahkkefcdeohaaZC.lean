/- Texts put behind one another: AxCLib, AxCBase, AxCLaw3. Conditions: none. -/
import Derived.Test.YtfahkkefcdeohaaAxEnterZ
import Derived.Test.YtfahkkefcdeohaaProg
import Derived.KernelRfl
set_option linter.unusedSimpArgs false
set_option linter.unusedVariables false
/- The code of functions of the program, for our abstract machine; each is tied to the program by a closed test. Written by gen.py. Conditions: none. -/
namespace Go.Proofs.Ytfahkkefcdeohaa.Ax
open Go Go.Ax
set_option maxRecDepth 100000

def c2 : ACode :=
 .wild
theorem ok2 : fnOk Try.prog 2 c2 1 [] = true := by kernel_rfl

def k48_0 : ACode :=
 .seq (.region [
 ⟨(some 5), .mv (.t 0), none⟩,
 ⟨(some 6), .mv (.t 1), none⟩,
 ⟨(some 7), .call 57 [(.t 5), (.t 6)], none⟩,
 ⟨(some 8), .bin .geq (.t 7) (.c (.int .i64 0)), none⟩,
 ⟨(some 4), .mv (.t 8), none⟩])
 (.ret)

def c48 : ACode :=
 .seq (.region [
 ⟨(some 4), .mv (.c (.bool false)), none⟩])
 k48_0
theorem ok48 : fnOk Try.prog 48 c48 9 [.t 4] = true := by kernel_rfl

def k57_0 : ACode :=
 .cond (.t 16)
 (.seq (.region [
 ⟨(some 17), .mv (.t 5), none⟩,
 ⟨(some 4), .mv (.t 17), none⟩])
 (.ret))
 (.skip)

def k57_1 : ACode :=
 .seq (.region [
 ⟨(some 11), .mv (.t 1), none⟩,
 ⟨(some 12), .mv (.t 0), none⟩,
 ⟨(some 13), .mv (.t 5), none⟩,
 ⟨(some 14), .ixs 1 (.t 12) (.t 13), none⟩,
 ⟨(some 15), .ld none (.t 14), none⟩,
 ⟨(some 16), .bin .eql (.t 11) (.t 15), none⟩])
 k57_0

def k57_2 : ACode :=
 .seq (.block 1 (
 .seq (.region [
 ⟨(some 10), .mv (.t 8), none⟩,
 ⟨(some 5), .mv (.t 10), none⟩])
 k57_1))
 (.region [
 ⟨(some 18), .bin .add (.t 8) (.c (.int .i64 1)), none⟩,
 ⟨(some 8), .mv (.t 18), none⟩])

def b57_3 : ACode :=
 .seq (.region [
 ⟨(some 9), .bin .lss (.t 8) (.t 7), none⟩])
 (.seq (.cond (.t 9)
 (.skip)
 (.exit 0))
 k57_2)

def k57_4 : ACode :=
 .seq (.seq (.region [
 ⟨(some 6), .mv (.t 0), none⟩,
 ⟨(some 7), .len false (.t 6), none⟩,
 ⟨(some 8), .mv (.c (.int .i64 0)), none⟩])
 (.block 0 (
 .loop b57_3)))
 (.seq (.region [
 ⟨(some 4), .mv (.c (.int .i64 (-1))), none⟩])
 (.ret))

def c57 : ACode :=
 .seq (.region [
 ⟨(some 4), .mv (.c (.int .i64 0)), none⟩])
 k57_4
theorem ok57 : fnOk Try.prog 57 c57 19 [.t 4] = true := by kernel_rfl

end Go.Proofs.Ytfahkkefcdeohaa.Ax

/- The code of functions of the program, for our abstract machine; each is tied to the program by a closed test. Written by gen.py. Conditions: none. -/
namespace Go.Proofs.Ytfahkkefcdeohaa.Ax
open Go Go.Ax
set_option maxRecDepth 100000

def k9_0 : ACode :=
 .cond (.t 9)
 (.seq (.region [
 ⟨(some 6), .mv (.c (.bool false)), none⟩])
 (.ret))
 (.skip)

def k9_1 : ACode :=
 .seq (.region [
 ⟨(some 16), .mv (.t 0), none⟩,
 ⟨(some 17), .mv (.t 0), none⟩,
 ⟨(some 18), .nck (.t 16), none⟩,
 ⟨(some 19), .fld 16 (.t 18), none⟩,
 ⟨none, .st 1 (.t 19) (.c (.bool true)), none⟩,
 ⟨(some 20), .nck (.t 17), none⟩,
 ⟨(some 21), .fld 17 (.t 20), none⟩,
 ⟨none, .st 1 (.t 21) (.c (.bool false)), none⟩])
 (.seq (.region [
 ⟨(some 6), .mv (.c (.bool true)), none⟩])
 (.ret))

def k9_2 : ACode :=
 .seq (.region [
 ⟨(some 10), .mv (.t 0), none⟩,
 ⟨(some 11), .mv (.t 1), none⟩,
 ⟨(some 12), .mv (.t 2), none⟩,
 ⟨(some 13), .nck (.t 10), none⟩,
 ⟨(some 14), .fld 8 (.t 13), none⟩,
 ⟨(some 15), .ixa 8 1 (.t 14) (.t 11), none⟩,
 ⟨none, .st 1 (.t 15) (.t 12), none⟩])
 k9_1

def k9_3 : ACode :=
 .seq (.seq (.region [
 ⟨(some 7), .mv (.t 1), none⟩,
 ⟨(some 8), .call 44 [(.t 7)], none⟩,
 ⟨(some 9), .un .not (.t 8), none⟩])
 k9_0)
 k9_2

def c9 : ACode :=
 .seq (.region [
 ⟨(some 6), .mv (.c (.bool false)), none⟩])
 k9_3
theorem ok9 : fnOk Try.prog 9 c9 22 [.t 6] = true := by kernel_rfl

def c10 : ACode :=
 .region [
 ⟨(some 2), .mv (.t 0), none⟩,
 ⟨(some 3), .mv (.t 0), none⟩,
 ⟨(some 4), .nck (.t 3), none⟩,
 ⟨(some 5), .fld 17 (.t 4), none⟩,
 ⟨(some 6), .ld none (.t 5), none⟩,
 ⟨(some 7), .mv (.t 6), none⟩,
 ⟨(some 8), .mv (.t 0), (some (7, false))⟩,
 ⟨(some 9), .nck (.t 8), (some (7, false))⟩,
 ⟨(some 10), .fld 16 (.t 9), (some (7, false))⟩,
 ⟨(some 11), .ld none (.t 10), (some (7, false))⟩,
 ⟨(some 12), .pick (.t 7) (.c (.bool true)) (.t 11), none⟩,
 ⟨(some 13), .nck (.t 2), none⟩,
 ⟨(some 14), .fld 17 (.t 13), none⟩,
 ⟨none, .st 1 (.t 14) (.t 12), none⟩]
theorem ok10 : fnOk Try.prog 10 c10 15 [] = true := by kernel_rfl

def k11_0 : ACode :=
 .seq (.region [
 ⟨(some 3), .mv (.t 0), none⟩,
 ⟨(some 4), .nck (.t 3), none⟩,
 ⟨(some 5), .fld 17 (.t 4), none⟩,
 ⟨(some 6), .ld none (.t 5), none⟩,
 ⟨(some 7), .mv (.t 6), none⟩,
 ⟨(some 8), .mv (.t 0), (some (7, true))⟩,
 ⟨(some 9), .call 45 [(.t 8)], (some (7, true))⟩,
 ⟨(some 10), .pick (.t 7) (.t 9) (.c (.bool false)), none⟩,
 ⟨(some 2), .mv (.t 10), none⟩])
 (.ret)

def c11 : ACode :=
 .seq (.region [
 ⟨(some 2), .mv (.c (.bool false)), none⟩])
 k11_0
theorem ok11 : fnOk Try.prog 11 c11 11 [.t 2] = true := by kernel_rfl

def k12_0 : ACode :=
 .seq (.region [
 ⟨(some 13), .mv (.t 0), none⟩,
 ⟨(some 14), .call 45 [(.t 13)], none⟩,
 ⟨(some 4), .mv (.t 14), none⟩])
 (.ret)

def k12_1 : ACode :=
 .seq (.region [
 ⟨(some 22), .mv (.t 0), none⟩,
 ⟨(some 23), .mv (.t 0), none⟩,
 ⟨(some 24), .nck (.t 22), none⟩,
 ⟨(some 25), .fld 16 (.t 24), none⟩,
 ⟨none, .st 1 (.t 25) (.c (.bool false)), none⟩,
 ⟨(some 26), .nck (.t 23), none⟩,
 ⟨(some 27), .fld 17 (.t 26), none⟩,
 ⟨none, .st 1 (.t 27) (.c (.bool false)), none⟩])
 (.seq (.region [
 ⟨(some 4), .mv (.c (.bool true)), none⟩])
 (.ret))

def k12_2 : ACode :=
 .seq (.region [
 ⟨(some 15), .mv (.t 0), none⟩,
 ⟨(some 16), .mv (.t 0), none⟩,
 ⟨(some 17), .nck (.t 16), none⟩,
 ⟨(some 18), .fld 0 (.t 17), none⟩,
 ⟨(some 19), .ld (some 8) (.t 18), none⟩,
 ⟨(some 20), .nck (.t 15), none⟩,
 ⟨(some 21), .fld 8 (.t 20), none⟩,
 ⟨none, .st 8 (.t 21) (.t 19), none⟩])
 k12_1

def k12_3 : ACode :=
 .seq (.seq (.region [
 ⟨(some 5), .mv (.t 1), none⟩,
 ⟨(some 6), .mv (.t 5), none⟩,
 ⟨(some 7), .mv (.t 0), (some (6, false))⟩,
 ⟨(some 8), .nck (.t 7), (some (6, false))⟩,
 ⟨(some 9), .fld 16 (.t 8), (some (6, false))⟩,
 ⟨(some 10), .ld none (.t 9), (some (6, false))⟩,
 ⟨(some 11), .un .not (.t 10), (some (6, false))⟩,
 ⟨(some 12), .pick (.t 6) (.c (.bool true)) (.t 11), none⟩])
 (.cond (.t 12)
 k12_0
 (.skip)))
 k12_2

def c12 : ACode :=
 .seq (.region [
 ⟨(some 4), .mv (.c (.bool false)), none⟩])
 k12_3
theorem ok12 : fnOk Try.prog 12 c12 28 [.t 4] = true := by kernel_rfl

def k14_0 : ACode :=
 .cond (.t 9)
 (.seq (.region [
 ⟨(some 2), .mv (.c (.lit (.pointer none))), none⟩,
 ⟨(some 3), .mv (.c (.int .i64 1)), none⟩])
 (.ret))
 (.skip)

def k14_1 : ACode :=
 .seq (.region [
 ⟨(some 10), .mv (.t 0), none⟩,
 ⟨(some 11), .mks 18 136 [.int .u64 0, .int .u64 0, .int .u64 0, .int .u64 0, .int .u64 0, .int .u64 0, .int .u64 0, .int .u64 0, .int .u64 0, .int .u64 0, .int .u64 0, .int .u64 0, .int .u64 0, .int .u64 0, .int .u64 0, .int .u64 0, .bool false, .bool false] (.t 10) (.t 10), none⟩,
 ⟨(some 12), .build [.lit (.slice none 0 0), .bool false, .int .i64 0, .int .i64 0, .lit (.slice none 0 0)] [(0, 1, (.t 11))], none⟩,
 ⟨(some 13), .box (.t 12), none⟩,
 ⟨(some 2), .mv (.t 13), none⟩,
 ⟨(some 3), .mv (.c (.int .i64 0)), none⟩])
 (.ret)

def k14_2 : ACode :=
 .seq (.seq (.region [
 ⟨(some 4), .mv (.t 0), none⟩,
 ⟨(some 5), .bin .lss (.t 4) (.c (.int .i64 1)), none⟩,
 ⟨(some 6), .mv (.t 5), none⟩,
 ⟨(some 7), .mv (.t 0), (some (6, false))⟩,
 ⟨(some 8), .bin .gtr (.t 7) (.c (.int .i64 4096)), (some (6, false))⟩,
 ⟨(some 9), .pick (.t 6) (.c (.bool true)) (.t 8), none⟩])
 k14_0)
 k14_1

def c14 : ACode :=
 .seq (.region [
 ⟨(some 2), .mv (.c (.lit (.pointer none))), none⟩,
 ⟨(some 3), .mv (.c (.int .i64 0)), none⟩])
 k14_2
theorem ok14 : fnOk Try.prog 14 c14 14 [.t 2, .t 3] = true := by kernel_rfl

def k15_0 : ACode :=
 .seq (.region [
 ⟨(some 25), .mv (.t 11), none⟩,
 ⟨(some 8), .mv (.c (.bool false)), none⟩,
 ⟨(some 9), .mv (.t 25), none⟩])
 (.ret)

def k15_1 : ACode :=
 .seq (.region [
 ⟨(some 30), .mv (.t 11), none⟩,
 ⟨(some 31), .bin .eql (.t 30) (.c (.int .i64 0)), none⟩,
 ⟨(some 32), .mv (.t 11), none⟩,
 ⟨(some 8), .mv (.t 31), none⟩,
 ⟨(some 9), .mv (.t 32), none⟩])
 (.ret)

def k15_2 : ACode :=
 .seq (.region [
 ⟨(some 26), .mv (.t 0), none⟩,
 ⟨(some 27), .mv (.t 1), none⟩,
 ⟨(some 28), .mv (.t 3), none⟩,
 ⟨(some 29), .call 17 [(.t 26), (.t 27), (.t 28)], none⟩,
 ⟨(some 11), .mv (.t 29), none⟩])
 k15_1

def k15_3 : ACode :=
 .seq (.seq (.region [
 ⟨(some 18), .mv (.t 11), none⟩,
 ⟨(some 19), .bin .neq (.t 18) (.c (.int .i64 0)), none⟩,
 ⟨(some 20), .mv (.t 19), none⟩,
 ⟨(some 21), .mv (.t 10), (some (20, false))⟩,
 ⟨(some 22), .mv (.t 2), (some (20, false))⟩,
 ⟨(some 23), .bin .neq (.t 21) (.t 22), (some (20, false))⟩,
 ⟨(some 24), .pick (.t 20) (.c (.bool true)) (.t 23), none⟩])
 (.cond (.t 24)
 k15_0
 (.skip)))
 k15_2

def k15_4 : ACode :=
 .seq (.region [
 ⟨(some 13), .mv (.t 0), none⟩,
 ⟨(some 14), .mv (.t 1), none⟩,
 ⟨(some 15), .call 16 [(.t 13), (.t 14)], none⟩,
 ⟨(some 12), .mv (.t 15), none⟩,
 ⟨(some 16), .ext (.t 12) 0, none⟩,
 ⟨(some 17), .ext (.t 12) 1, none⟩,
 ⟨(some 10), .mv (.t 16), none⟩,
 ⟨(some 11), .mv (.t 17), none⟩])
 k15_3

def c15 : ACode :=
 .seq (.region [
 ⟨(some 8), .mv (.c (.bool false)), none⟩,
 ⟨(some 9), .mv (.c (.int .i64 0)), none⟩])
 k15_4
theorem ok15 : fnOk Try.prog 15 c15 33 [.t 8, .t 9] = true := by kernel_rfl

def k16_0 : ACode :=
 .seq (.region [
 ⟨(some 18), .mv (.t 6), none⟩,
 ⟨(some 4), .mv (.c (.int .u64 0)), none⟩,
 ⟨(some 5), .mv (.t 18), none⟩])
 (.ret)

def k16_1 : ACode :=
 .seq (.region [
 ⟨(some 16), .mv (.t 6), none⟩,
 ⟨(some 17), .bin .neq (.t 16) (.c (.int .i64 0)), none⟩])
 (.cond (.t 17)
 k16_0
 (.skip))

def k16_2 : ACode :=
 .seq (.region [
 ⟨(some 19), .mv (.t 0), none⟩,
 ⟨(some 20), .nck (.t 19), none⟩,
 ⟨(some 21), .fld 0 (.t 20), none⟩,
 ⟨(some 22), .ld none (.t 21), none⟩,
 ⟨(some 23), .mv (.t 1), none⟩,
 ⟨(some 24), .bin .quo (.t 23) (.c (.int .i64 8)), none⟩,
 ⟨(some 25), .ixs 18 (.t 22) (.t 24), none⟩,
 ⟨(some 26), .mv (.t 1), none⟩,
 ⟨(some 27), .bin .rem (.t 26) (.c (.int .i64 8)), none⟩,
 ⟨(some 28), .call 43 [(.t 25), (.t 27)], none⟩,
 ⟨(some 4), .mv (.t 28), none⟩,
 ⟨(some 5), .mv (.c (.int .i64 0)), none⟩])
 (.ret)

def k16_3 : ACode :=
 .seq (.seq (.region [
 ⟨(some 7), .mv (.t 0), none⟩,
 ⟨(some 8), .mv (.t 1), none⟩,
 ⟨(some 9), .mv (.t 0), none⟩,
 ⟨(some 10), .nck (.t 9), none⟩,
 ⟨(some 11), .fld 0 (.t 10), none⟩,
 ⟨(some 12), .ld none (.t 11), none⟩,
 ⟨(some 13), .len false (.t 12), none⟩,
 ⟨(some 14), .bin .mul (.t 13) (.c (.int .i64 8)), none⟩,
 ⟨(some 15), .call 46 [(.t 7), (.t 8), (.t 14)], none⟩,
 ⟨(some 6), .mv (.t 15), none⟩])
 k16_1)
 k16_2

def c16 : ACode :=
 .seq (.region [
 ⟨(some 4), .mv (.c (.int .u64 0)), none⟩,
 ⟨(some 5), .mv (.c (.int .i64 0)), none⟩])
 k16_3
theorem ok16 : fnOk Try.prog 16 c16 29 [.t 4, .t 5] = true := by kernel_rfl

def k17_0 : ACode :=
 .cond (.t 18)
 (.seq (.region [
 ⟨(some 19), .mv (.t 7), none⟩,
 ⟨(some 6), .mv (.t 19), none⟩])
 (.ret))
 (.skip)

def k17_1 : ACode :=
 .cond (.t 22)
 (.seq (.region [
 ⟨(some 6), .mv (.c (.int .i64 12)), none⟩])
 (.ret))
 (.skip)

def k17_2 : ACode :=
 .seq (.region [
 ⟨(some 23), .mv (.t 0), none⟩,
 ⟨(some 24), .nck (.t 23), none⟩,
 ⟨(some 25), .fld 0 (.t 24), none⟩,
 ⟨(some 26), .ld none (.t 25), none⟩,
 ⟨(some 27), .mv (.t 1), none⟩,
 ⟨(some 28), .bin .quo (.t 27) (.c (.int .i64 8)), none⟩,
 ⟨(some 29), .ixs 18 (.t 26) (.t 28), none⟩,
 ⟨(some 30), .mv (.t 1), none⟩,
 ⟨(some 31), .bin .rem (.t 30) (.c (.int .i64 8)), none⟩,
 ⟨(some 32), .mv (.t 2), none⟩,
 ⟨(some 33), .call 9 [(.t 29), (.t 31), (.t 32)], none⟩])
 (.seq (.region [
 ⟨(some 6), .mv (.c (.int .i64 0)), none⟩])
 (.ret))

def k17_3 : ACode :=
 .seq (.seq (.region [
 ⟨(some 20), .mv (.t 0), none⟩,
 ⟨(some 21), .call 47 [(.t 20)], none⟩,
 ⟨(some 22), .un .not (.t 21), none⟩])
 k17_1)
 k17_2

def k17_4 : ACode :=
 .seq (.seq (.region [
 ⟨(some 8), .mv (.t 0), none⟩,
 ⟨(some 9), .mv (.t 1), none⟩,
 ⟨(some 10), .mv (.t 0), none⟩,
 ⟨(some 11), .nck (.t 10), none⟩,
 ⟨(some 12), .fld 0 (.t 11), none⟩,
 ⟨(some 13), .ld none (.t 12), none⟩,
 ⟨(some 14), .len false (.t 13), none⟩,
 ⟨(some 15), .bin .mul (.t 14) (.c (.int .i64 8)), none⟩,
 ⟨(some 16), .call 46 [(.t 8), (.t 9), (.t 15)], none⟩,
 ⟨(some 7), .mv (.t 16), none⟩])
 (.seq (.region [
 ⟨(some 17), .mv (.t 7), none⟩,
 ⟨(some 18), .bin .neq (.t 17) (.c (.int .i64 0)), none⟩])
 k17_0))
 k17_3

def c17 : ACode :=
 .seq (.region [
 ⟨(some 6), .mv (.c (.int .i64 0)), none⟩])
 k17_4
theorem ok17 : fnOk Try.prog 17 c17 34 [.t 6] = true := by kernel_rfl

def k18_0 : ACode :=
 .cond (.t 15)
 (.seq (.region [
 ⟨(some 16), .mv (.t 5), none⟩,
 ⟨(some 4), .mv (.t 16), none⟩])
 (.ret))
 (.skip)

def k18_1 : ACode :=
 .cond (.t 19)
 (.seq (.region [
 ⟨(some 4), .mv (.c (.int .i64 12)), none⟩])
 (.ret))
 (.skip)

def k18_2 : ACode :=
 .seq (.region [
 ⟨(some 20), .mv (.t 0), none⟩,
 ⟨(some 21), .nck (.t 20), none⟩,
 ⟨(some 22), .fld 0 (.t 21), none⟩,
 ⟨(some 23), .ld none (.t 22), none⟩,
 ⟨(some 24), .mv (.t 1), none⟩,
 ⟨(some 25), .ixs 18 (.t 23) (.t 24), none⟩,
 ⟨(some 26), .call 10 [(.t 25)], none⟩])
 (.seq (.region [
 ⟨(some 4), .mv (.c (.int .i64 0)), none⟩])
 (.ret))

def k18_3 : ACode :=
 .seq (.seq (.region [
 ⟨(some 17), .mv (.t 0), none⟩,
 ⟨(some 18), .call 47 [(.t 17)], none⟩,
 ⟨(some 19), .un .not (.t 18), none⟩])
 k18_1)
 k18_2

def k18_4 : ACode :=
 .seq (.seq (.region [
 ⟨(some 6), .mv (.t 0), none⟩,
 ⟨(some 7), .mv (.t 1), none⟩,
 ⟨(some 8), .mv (.t 0), none⟩,
 ⟨(some 9), .nck (.t 8), none⟩,
 ⟨(some 10), .fld 0 (.t 9), none⟩,
 ⟨(some 11), .ld none (.t 10), none⟩,
 ⟨(some 12), .len false (.t 11), none⟩,
 ⟨(some 13), .call 46 [(.t 6), (.t 7), (.t 12)], none⟩,
 ⟨(some 5), .mv (.t 13), none⟩])
 (.seq (.region [
 ⟨(some 14), .mv (.t 5), none⟩,
 ⟨(some 15), .bin .neq (.t 14) (.c (.int .i64 0)), none⟩])
 k18_0))
 k18_3

def c18 : ACode :=
 .seq (.region [
 ⟨(some 4), .mv (.c (.int .i64 0)), none⟩])
 k18_4
theorem ok18 : fnOk Try.prog 18 c18 27 [.t 4] = true := by kernel_rfl

def k19_0 : ACode :=
 .cond (.t 8)
 (.seq (.region [
 ⟨(some 9), .mv (.t 3), none⟩,
 ⟨(some 2), .mv (.t 9), none⟩])
 (.ret))
 (.skip)

def k19_1 : ACode :=
 .cond (.t 12)
 (.seq (.region [
 ⟨(some 2), .mv (.c (.int .i64 12)), none⟩])
 (.ret))
 (.skip)

def k19_2 : ACode :=
 .region [
 ⟨(some 21), .mv (.t 0), none⟩,
 ⟨(some 22), .nck (.t 21), none⟩,
 ⟨(some 23), .fld 0 (.t 22), none⟩,
 ⟨(some 24), .ld none (.t 23), none⟩,
 ⟨(some 25), .mv (.t 4), none⟩,
 ⟨(some 26), .ixs 18 (.t 24) (.t 25), none⟩,
 ⟨(some 27), .call 11 [(.t 26)], none⟩]

def k19_3 : ACode :=
 .seq (.block 1 (
 .seq (.region [
 ⟨(some 20), .mv (.t 18), none⟩,
 ⟨(some 4), .mv (.t 20), none⟩])
 k19_2))
 (.region [
 ⟨(some 28), .bin .add (.t 18) (.c (.int .i64 1)), none⟩,
 ⟨(some 18), .mv (.t 28), none⟩])

def b19_4 : ACode :=
 .seq (.region [
 ⟨(some 19), .bin .lss (.t 18) (.t 17), none⟩])
 (.seq (.cond (.t 19)
 (.skip)
 (.exit 0))
 k19_3)

def k19_5 : ACode :=
 .seq (.seq (.region [
 ⟨(some 13), .mv (.t 0), none⟩,
 ⟨(some 14), .nck (.t 13), none⟩,
 ⟨(some 15), .fld 0 (.t 14), none⟩,
 ⟨(some 16), .ld none (.t 15), none⟩,
 ⟨(some 17), .len false (.t 16), none⟩,
 ⟨(some 18), .mv (.c (.int .i64 0)), none⟩])
 (.block 0 (
 .loop b19_4)))
 (.seq (.region [
 ⟨(some 2), .mv (.c (.int .i64 0)), none⟩])
 (.ret))

def k19_6 : ACode :=
 .seq (.seq (.region [
 ⟨(some 10), .mv (.t 0), none⟩,
 ⟨(some 11), .call 47 [(.t 10)], none⟩,
 ⟨(some 12), .un .not (.t 11), none⟩])
 k19_1)
 k19_5

def k19_7 : ACode :=
 .seq (.seq (.region [
 ⟨(some 5), .mv (.t 0), none⟩,
 ⟨(some 6), .call 46 [(.t 5), (.c (.int .i64 0)), (.c (.int .i64 1))], none⟩,
 ⟨(some 3), .mv (.t 6), none⟩])
 (.seq (.region [
 ⟨(some 7), .mv (.t 3), none⟩,
 ⟨(some 8), .bin .neq (.t 7) (.c (.int .i64 0)), none⟩])
 k19_0))
 k19_6

def c19 : ACode :=
 .seq (.region [
 ⟨(some 2), .mv (.c (.int .i64 0)), none⟩])
 k19_7
theorem ok19 : fnOk Try.prog 19 c19 29 [.t 2] = true := by kernel_rfl

def k22_0 : ACode :=
 .drawn [
 (0, ⟨(some 17), .mv (.t 0), none⟩),
 (1, ⟨(some 18), .nck (.t 17), none⟩),
 (2, ⟨(some 19), .fld 0 (.t 18), none⟩),
 (3, ⟨(some 20), .ld none (.t 19), none⟩),
 (4, ⟨(some 21), .mv (.t 4), none⟩),
 (5, ⟨(some 22), .ixs 18 (.t 20) (.t 21), none⟩),
 (6, ⟨(some 23), .mv (.t 1), none⟩),
 (7, ⟨(some 24), .mv (.t 4), none⟩),
 (8, ⟨(some 25), .call 48 [(.t 23), (.t 24)], none⟩),
 (9, ⟨(some 26), .call 12 [(.t 22), (.t 25)], none⟩)]
 [[], [0], [1], [2], [], [3, 4], [], [], [6, 7], [5, 8, 8]] 0

def k22_1 : ACode :=
 .seq (.block 1 (
 .seq (.region [
 ⟨(some 16), .mv (.t 14), none⟩,
 ⟨(some 4), .mv (.t 16), none⟩])
 k22_0))
 (.region [
 ⟨(some 27), .bin .add (.t 14) (.c (.int .i64 1)), none⟩,
 ⟨(some 14), .mv (.t 27), none⟩])

def b22_2 : ACode :=
 .seq (.region [
 ⟨(some 15), .bin .lss (.t 14) (.t 13), none⟩])
 (.seq (.cond (.t 15)
 (.skip)
 (.exit 0))
 k22_1)

def k22_3 : ACode :=
 .region [
 ⟨(some 31), .mv (.t 0), none⟩,
 ⟨(some 32), .nck (.t 31), none⟩,
 ⟨(some 33), .fld 3 (.t 32), none⟩,
 ⟨none, .st 1 (.t 33) (.c (.int .i64 0)), none⟩]

def k22_4 : ACode :=
 .seq (.region [
 ⟨(some 28), .mv (.t 0), none⟩,
 ⟨(some 29), .nck (.t 28), none⟩,
 ⟨(some 30), .fld 1 (.t 29), none⟩,
 ⟨none, .st 1 (.t 30) (.c (.bool true)), none⟩])
 k22_3

def k22_5 : ACode :=
 .seq (.seq (.region [
 ⟨(some 9), .mv (.t 0), none⟩,
 ⟨(some 10), .nck (.t 9), none⟩,
 ⟨(some 11), .fld 0 (.t 10), none⟩,
 ⟨(some 12), .ld none (.t 11), none⟩,
 ⟨(some 13), .len false (.t 12), none⟩,
 ⟨(some 14), .mv (.c (.int .i64 0)), none⟩])
 (.block 0 (
 .loop b22_2)))
 k22_4

def c22 : ACode :=
 .seq (.seq (.region [
 ⟨(some 5), .mv (.t 0), none⟩,
 ⟨(some 6), .nck (.t 5), none⟩,
 ⟨(some 7), .fld 1 (.t 6), none⟩,
 ⟨(some 8), .ld none (.t 7), none⟩])
 (.cond (.t 8)
 (.ret)
 (.skip)))
 k22_5
theorem ok22 : fnOk Try.prog 22 c22 34 [] = true := by kernel_rfl

def k26_0 : ACode :=
 .seq (.region [
 ⟨(some 3), .mv (.t 0), none⟩,
 ⟨(some 4), .nck (.t 3), none⟩,
 ⟨(some 5), .fld 2 (.t 4), none⟩,
 ⟨(some 6), .ld none (.t 5), none⟩,
 ⟨(some 2), .mv (.t 6), none⟩])
 (.ret)

def c26 : ACode :=
 .seq (.region [
 ⟨(some 2), .mv (.c (.int .i64 0)), none⟩])
 k26_0
theorem ok26 : fnOk Try.prog 26 c26 7 [.t 2] = true := by kernel_rfl

def c36 : ACode :=
 .region [
 ⟨(some 2), .mv (.t 0), none⟩,
 ⟨(some 3), .nck (.t 2), none⟩,
 ⟨(some 4), .fld 1 (.t 3), none⟩,
 ⟨none, .st 1 (.t 4) (.c (.bool false)), none⟩]
theorem ok36 : fnOk Try.prog 36 c36 5 [] = true := by kernel_rfl

def k43_0 : ACode :=
 .cond (.t 7)
 (.seq (.region [
 ⟨(some 4), .mv (.c (.int .u64 0)), none⟩])
 (.ret))
 (.skip)

def k43_1 : ACode :=
 .seq (.region [
 ⟨(some 8), .mv (.t 0), none⟩,
 ⟨(some 9), .mv (.t 1), none⟩,
 ⟨(some 10), .nck (.t 8), none⟩,
 ⟨(some 11), .fld 8 (.t 10), none⟩,
 ⟨(some 12), .ixa 8 1 (.t 11) (.t 9), none⟩,
 ⟨(some 13), .ld none (.t 12), none⟩,
 ⟨(some 4), .mv (.t 13), none⟩])
 (.ret)

def k43_2 : ACode :=
 .seq (.seq (.region [
 ⟨(some 5), .mv (.t 1), none⟩,
 ⟨(some 6), .call 44 [(.t 5)], none⟩,
 ⟨(some 7), .un .not (.t 6), none⟩])
 k43_0)
 k43_1

def c43 : ACode :=
 .seq (.region [
 ⟨(some 4), .mv (.c (.int .u64 0)), none⟩])
 k43_2
theorem ok43 : fnOk Try.prog 43 c43 14 [.t 4] = true := by kernel_rfl

def k44_0 : ACode :=
 .seq (.region [
 ⟨(some 3), .mv (.t 0), none⟩,
 ⟨(some 4), .bin .geq (.t 3) (.c (.int .i64 0)), none⟩,
 ⟨(some 5), .mv (.t 4), none⟩,
 ⟨(some 6), .mv (.t 0), (some (5, true))⟩,
 ⟨(some 7), .bin .lss (.t 6) (.c (.int .i64 8)), (some (5, true))⟩,
 ⟨(some 8), .pick (.t 5) (.t 7) (.c (.bool false)), none⟩,
 ⟨(some 2), .mv (.t 8), none⟩])
 (.ret)

def c44 : ACode :=
 .seq (.region [
 ⟨(some 2), .mv (.c (.bool false)), none⟩])
 k44_0
theorem ok44 : fnOk Try.prog 44 c44 9 [.t 2] = true := by kernel_rfl

def k45_0 : ACode :=
 .cond (.t 7)
 (.seq (.region [
 ⟨(some 2), .mv (.c (.bool false)), none⟩])
 (.ret))
 (.skip)

def k45_1 : ACode :=
 .seq (.region [
 ⟨(some 15), .mv (.t 0), none⟩,
 ⟨(some 16), .mv (.t 0), none⟩,
 ⟨(some 17), .nck (.t 15), none⟩,
 ⟨(some 18), .fld 16 (.t 17), none⟩,
 ⟨none, .st 1 (.t 18) (.c (.bool false)), none⟩,
 ⟨(some 19), .nck (.t 16), none⟩,
 ⟨(some 20), .fld 17 (.t 19), none⟩,
 ⟨none, .st 1 (.t 20) (.c (.bool false)), none⟩])
 (.seq (.region [
 ⟨(some 2), .mv (.c (.bool true)), none⟩])
 (.ret))

def k45_2 : ACode :=
 .seq (.region [
 ⟨(some 8), .mv (.t 0), none⟩,
 ⟨(some 9), .mv (.t 0), none⟩,
 ⟨(some 10), .nck (.t 9), none⟩,
 ⟨(some 11), .fld 8 (.t 10), none⟩,
 ⟨(some 12), .ld (some 8) (.t 11), none⟩,
 ⟨(some 13), .nck (.t 8), none⟩,
 ⟨(some 14), .fld 0 (.t 13), none⟩,
 ⟨none, .st 8 (.t 14) (.t 12), none⟩])
 k45_1

def k45_3 : ACode :=
 .seq (.seq (.region [
 ⟨(some 3), .mv (.t 0), none⟩,
 ⟨(some 4), .nck (.t 3), none⟩,
 ⟨(some 5), .fld 16 (.t 4), none⟩,
 ⟨(some 6), .ld none (.t 5), none⟩,
 ⟨(some 7), .un .not (.t 6), none⟩])
 k45_0)
 k45_2

def c45 : ACode :=
 .seq (.region [
 ⟨(some 2), .mv (.c (.bool false)), none⟩])
 k45_3
theorem ok45 : fnOk Try.prog 45 c45 21 [.t 2] = true := by kernel_rfl

def k46_0 : ACode :=
 .cond (.t 12)
 (.seq (.region [
 ⟨(some 6), .mv (.c (.int .i64 1)), none⟩])
 (.ret))
 (.skip)

def k46_1 : ACode :=
 .seq (.region [
 ⟨(some 13), .mv (.t 1), none⟩,
 ⟨(some 14), .bin .lss (.t 13) (.c (.int .i64 0)), none⟩,
 ⟨(some 15), .mv (.t 14), none⟩,
 ⟨(some 16), .mv (.t 1), (some (15, false))⟩,
 ⟨(some 17), .mv (.t 2), (some (15, false))⟩,
 ⟨(some 18), .bin .geq (.t 16) (.t 17), (some (15, false))⟩,
 ⟨(some 19), .pick (.t 15) (.c (.bool true)) (.t 18), none⟩,
 ⟨(some 12), .mv (.t 19), none⟩])
 k46_0

def k46_2 : ACode :=
 .cond (.t 7)
 (.seq (.region [
 ⟨(some 6), .mv (.c (.int .i64 12)), none⟩])
 (.ret))
 k46_1

def k46_3 : ACode :=
 .seq (.block 0 (
 .seq (.region [
 ⟨(some 8), .mv (.t 0), none⟩,
 ⟨(some 9), .nck (.t 8), none⟩,
 ⟨(some 10), .fld 1 (.t 9), none⟩,
 ⟨(some 11), .ld none (.t 10), none⟩,
 ⟨(some 7), .mv (.t 11), none⟩])
 k46_2))
 (.seq (.region [
 ⟨(some 6), .mv (.c (.int .i64 0)), none⟩])
 (.ret))

def c46 : ACode :=
 .seq (.region [
 ⟨(some 6), .mv (.c (.int .i64 0)), none⟩])
 k46_3
theorem ok46 : fnOk Try.prog 46 c46 20 [.t 6] = true := by kernel_rfl

def k47_0 : ACode :=
 .seq (.region [
 ⟨(some 20), .mv (.t 0), none⟩,
 ⟨(some 21), .mv (.t 0), none⟩,
 ⟨(some 22), .nck (.t 21), none⟩,
 ⟨(some 23), .fld 4 (.t 22), none⟩,
 ⟨(some 24), .ld none (.t 23), none⟩,
 ⟨(some 25), .call 22 [(.t 20), (.t 24)], none⟩])
 (.seq (.region [
 ⟨(some 2), .mv (.c (.bool false)), none⟩])
 (.ret))

def k47_1 : ACode :=
 .seq (.region [
 ⟨(some 15), .mv (.t 0), none⟩,
 ⟨(some 16), .nck (.t 15), none⟩,
 ⟨(some 17), .fld 3 (.t 16), none⟩,
 ⟨(some 18), .ld none (.t 17), none⟩,
 ⟨(some 19), .bin .eql (.t 18) (.c (.int .i64 0)), none⟩])
 (.cond (.t 19)
 k47_0
 (.skip))

def k47_2 : ACode :=
 .seq (.region [
 ⟨(some 8), .mv (.t 0), none⟩,
 ⟨(some 9), .nck (.t 8), none⟩,
 ⟨(some 10), .fld 3 (.t 9), none⟩,
 ⟨(some 11), .ld none (.t 10), none⟩,
 ⟨(some 12), .bin .sub (.t 11) (.c (.int .i64 1)), none⟩,
 ⟨(some 13), .nck (.t 8), none⟩,
 ⟨(some 14), .fld 3 (.t 13), none⟩,
 ⟨none, .st 1 (.t 14) (.t 12), none⟩])
 k47_1

def k47_3 : ACode :=
 .seq (.region [
 ⟨(some 26), .mv (.t 0), none⟩,
 ⟨(some 27), .nck (.t 26), none⟩,
 ⟨(some 28), .fld 2 (.t 27), none⟩,
 ⟨(some 29), .ld none (.t 28), none⟩,
 ⟨(some 30), .bin .add (.t 29) (.c (.int .i64 1)), none⟩,
 ⟨(some 31), .nck (.t 26), none⟩,
 ⟨(some 32), .fld 2 (.t 31), none⟩,
 ⟨none, .st 1 (.t 32) (.t 30), none⟩])
 (.seq (.region [
 ⟨(some 2), .mv (.c (.bool true)), none⟩])
 (.ret))

def k47_4 : ACode :=
 .seq (.seq (.region [
 ⟨(some 3), .mv (.t 0), none⟩,
 ⟨(some 4), .nck (.t 3), none⟩,
 ⟨(some 5), .fld 3 (.t 4), none⟩,
 ⟨(some 6), .ld none (.t 5), none⟩,
 ⟨(some 7), .bin .gtr (.t 6) (.c (.int .i64 0)), none⟩])
 (.cond (.t 7)
 k47_2
 (.skip)))
 k47_3

def c47 : ACode :=
 .seq (.region [
 ⟨(some 2), .mv (.c (.bool false)), none⟩])
 k47_4
theorem ok47 : fnOk Try.prog 47 c47 33 [.t 2] = true := by kernel_rfl

end Go.Proofs.Ytfahkkefcdeohaa.Ax

/- The code of functions of the program, for our abstract machine; each is tied to the program by a closed test. Written by gen.py. Conditions: none. -/
namespace Go.Proofs.Ytfahkkefcdeohaa.Ax
open Go Go.Ax
set_option maxRecDepth 100000

def k4_0 : ACode :=
 .cond (.t 13)
 (.seq (.region [
 ⟨(some 2), .mv (.c (.bool false)), none⟩])
 (.ret))
 (.skip)

def k4_1 : ACode :=
 .cond (.t 16)
 (.seq (.region [
 ⟨(some 2), .mv (.c (.bool true)), none⟩])
 (.ret))
 (.skip)

def k4_2 : ACode :=
 .cond (.t 22)
 (.seq (.region [
 ⟨(some 2), .mv (.c (.bool false)), none⟩])
 (.ret))
 (.skip)

def k4_3 : ACode :=
 .cond (.t 66)
 (.seq (.region [
 ⟨(some 2), .mv (.c (.bool false)), none⟩])
 (.ret))
 (.skip)

def k4_4 : ACode :=
 .region [
 ⟨(some 68), .mv (.t 7), none⟩,
 ⟨(some 69), .mv (.t 0), none⟩,
 ⟨(some 70), .mv (.t 6), none⟩,
 ⟨(some 71), .ixs 5 (.t 69) (.t 70), none⟩,
 ⟨(some 72), .fld 3 (.t 71), none⟩,
 ⟨(some 73), .ld none (.t 72), none⟩,
 ⟨(some 74), .ixa 8 1 (.t 5) (.t 68), none⟩,
 ⟨none, .st 1 (.t 74) (.t 73), none⟩]

def k4_5 : ACode :=
 .cond (.t 89)
 (.seq (.region [
 ⟨(some 2), .mv (.c (.bool false)), none⟩])
 (.ret))
 (.skip)

def k4_6 : ACode :=
 .seq (.region [
 ⟨(some 81), .mv (.t 11), none⟩,
 ⟨(some 82), .bin .neq (.t 81) (.c (.int .i64 0)), none⟩,
 ⟨(some 83), .mv (.t 82), none⟩,
 ⟨(some 84), .mv (.t 10), (some (83, false))⟩,
 ⟨(some 85), .mv (.t 7), (some (83, false))⟩,
 ⟨(some 86), .ixa 8 1 (.t 5) (.t 85), (some (83, false))⟩,
 ⟨(some 87), .ld none (.t 86), (some (83, false))⟩,
 ⟨(some 88), .bin .neq (.t 84) (.t 87), (some (83, false))⟩,
 ⟨(some 89), .pick (.t 83) (.c (.bool true)) (.t 88), none⟩])
 k4_5

def k4_7 : ACode :=
 .seq (.region [
 ⟨(some 76), .mv (.t 3), none⟩,
 ⟨(some 77), .mv (.t 7), none⟩,
 ⟨(some 78), .call 16 [(.t 76), (.t 77)], none⟩,
 ⟨(some 75), .mv (.t 78), none⟩,
 ⟨(some 79), .ext (.t 75) 0, none⟩,
 ⟨(some 80), .ext (.t 75) 1, none⟩,
 ⟨(some 10), .mv (.t 79), none⟩,
 ⟨(some 11), .mv (.t 80), none⟩])
 k4_6

def k4_8 : ACode :=
 .seq (.seq (.region [
 ⟨(some 67), .mv (.t 8), none⟩])
 (.cond (.t 67)
 k4_4
 (.skip)))
 k4_7

def k4_9 : ACode :=
 .seq (.seq (.drawn [
 (0, ⟨(some 52), .mv (.t 9), none⟩),
 (1, ⟨(some 53), .bin .neq (.t 52) (.c (.int .i64 0)), none⟩),
 (2, ⟨(some 54), .mv (.t 53), none⟩),
 (4, ⟨(some 56), .mv (.t 7), (some (54, false))⟩),
 (5, ⟨(some 57), .ixa 8 1 (.t 5) (.t 56), (some (54, false))⟩),
 (6, ⟨(some 58), .ld none (.t 57), (some (54, false))⟩),
 (7, ⟨(some 59), .mv (.t 0), (some (54, false))⟩),
 (8, ⟨(some 60), .mv (.t 6), (some (54, false))⟩),
 (9, ⟨(some 61), .ixs 5 (.t 59) (.t 60), (some (54, false))⟩),
 (10, ⟨(some 62), .fld 2 (.t 61), (some (54, false))⟩),
 (11, ⟨(some 63), .ld none (.t 62), (some (54, false))⟩),
 (3, ⟨(some 55), .mv (.t 8), (some (54, false))⟩),
 (12, ⟨(some 64), .bin .eql (.t 58) (.t 63), (some (54, false))⟩),
 (13, ⟨(some 65), .eqb true (.t 55) (.t 64), (some (54, false))⟩),
 (14, ⟨(some 66), .pick (.t 54) (.c (.bool true)) (.t 65), none⟩)]
 [[], [0], [1], [2], [2], [4, 2], [5, 2], [2], [2], [7, 8, 2], [9, 2], [10, 2], [6, 11, 2], [3, 12, 2], [2, 13]] 0)
 k4_3)
 k4_8

def k4_10 : ACode :=
 .seq (.drawn [
 (2, ⟨(some 39), .mv (.t 0), none⟩),
 (3, ⟨(some 40), .mv (.t 6), none⟩),
 (4, ⟨(some 41), .ixs 5 (.t 39) (.t 40), none⟩),
 (5, ⟨(some 42), .fld 2 (.t 41), none⟩),
 (6, ⟨(some 43), .ld none (.t 42), none⟩),
 (7, ⟨(some 44), .mv (.t 0), none⟩),
 (8, ⟨(some 45), .mv (.t 6), none⟩),
 (9, ⟨(some 46), .ixs 5 (.t 44) (.t 45), none⟩),
 (10, ⟨(some 47), .fld 3 (.t 46), none⟩),
 (11, ⟨(some 48), .ld none (.t 47), none⟩),
 (0, ⟨(some 37), .mv (.t 3), none⟩),
 (1, ⟨(some 38), .mv (.t 7), none⟩),
 (12, ⟨(some 49), .call 15 [(.t 37), (.t 38), (.t 43), (.t 48)], none⟩),
 (13, ⟨(some 36), .mv (.t 49), none⟩),
 (14, ⟨(some 50), .ext (.t 36) 0, none⟩),
 (15, ⟨(some 51), .ext (.t 36) 1, none⟩),
 (16, ⟨(some 8), .mv (.t 50), none⟩),
 (17, ⟨(some 9), .mv (.t 51), none⟩)]
 [[], [], [], [], [2, 3], [4], [5], [], [], [7, 8], [9], [10], [0, 1, 6, 11], [12], [13], [13], [14, 12, 0, 1, 2, 3, 4, 5, 6, 7, 8, 9, 10, 11, 12, 13, 14], [15, 16, 0, 1, 2, 3, 4, 5, 6, 7, 8, 9, 10, 11, 12, 13, 14, 15, 16]] 0)
 k4_9

def k4_11 : ACode :=
 .seq (.block 1 (
 .seq (.region [
 ⟨(some 30), .mv (.t 0), none⟩,
 ⟨(some 31), .mv (.t 6), none⟩,
 ⟨(some 32), .ixs 5 (.t 30) (.t 31), none⟩,
 ⟨(some 33), .fld 1 (.t 32), none⟩,
 ⟨(some 34), .ld none (.t 33), none⟩,
 ⟨(some 35), .bin .and (.t 34) (.c (.int .i64 7)), none⟩,
 ⟨(some 7), .mv (.t 35), none⟩])
 k4_10))
 (.region [
 ⟨(some 28), .mv (.t 6), none⟩,
 ⟨(some 29), .bin .add (.t 28) (.c (.int .i64 1)), none⟩,
 ⟨(some 6), .mv (.t 29), none⟩])

def b4_12 : ACode :=
 .seq (.seq (.region [
 ⟨(some 24), .mv (.t 6), none⟩,
 ⟨(some 25), .mv (.t 0), none⟩,
 ⟨(some 26), .len false (.t 25), none⟩,
 ⟨(some 27), .bin .lss (.t 24) (.t 26), none⟩])
 (.cond (.t 27)
 (.skip)
 (.exit 0)))
 k4_11

def k4_13 : ACode :=
 .seq (.seq (.region [
 ⟨(some 6), .mv (.c (.int .i64 0)), none⟩])
 (.block 0 (
 .loop b4_12)))
 (.seq (.region [
 ⟨(some 2), .mv (.c (.bool true)), none⟩])
 (.ret))

def k4_14 : ACode :=
 .seq (.region [
 ⟨(some 23), .build [.int .u64 0, .int .u64 0, .int .u64 0, .int .u64 0, .int .u64 0, .int .u64 0, .int .u64 0, .int .u64 0] [], none⟩,
 ⟨(some 5), .new [.int .u64 0, .int .u64 0, .int .u64 0, .int .u64 0, .int .u64 0, .int .u64 0, .int .u64 0, .int .u64 0], none⟩,
 ⟨none, .st 8 (.t 5) (.t 23), none⟩])
 k4_13

def k4_15 : ACode :=
 .seq (.seq (.region [
 ⟨(some 21), .mv (.t 3), none⟩,
 ⟨(some 22), .isNil false 0 (.t 21), none⟩])
 k4_2)
 k4_14

def k4_16 : ACode :=
 .seq (.region [
 ⟨(some 18), .call 14 [(.c (.int .i64 1))], none⟩,
 ⟨(some 17), .mv (.t 18), none⟩,
 ⟨(some 19), .ext (.t 17) 0, none⟩,
 ⟨(some 20), .ext (.t 17) 1, none⟩,
 ⟨(some 3), .mv (.t 19), none⟩,
 ⟨(some 4), .mv (.t 20), none⟩])
 k4_15

def k4_17 : ACode :=
 .seq (.seq (.region [
 ⟨(some 14), .mv (.t 0), none⟩,
 ⟨(some 15), .len false (.t 14), none⟩,
 ⟨(some 16), .bin .gtr (.t 15) (.c (.int .i64 60)), none⟩])
 k4_1)
 k4_16

def k4_18 : ACode :=
 .seq (.seq (.region [
 ⟨(some 12), .call 13 [], none⟩,
 ⟨(some 13), .un .not (.t 12), none⟩])
 k4_0)
 k4_17

def c4 : ACode :=
 .seq (.region [
 ⟨(some 2), .mv (.c (.bool false)), none⟩])
 k4_18
theorem ok4 : fnOk Try.prog 4 c4 90 [.t 2] = true := by kernel_rfl

def k13_0 : ACode :=
 .cond (.t 19)
 (.seq (.region [
 ⟨(some 0), .mv (.c (.bool false)), none⟩])
 (.ret))
 (.skip)

def k13_1 : ACode :=
 .seq (.region [
 ⟨(some 40), .mv (.t 3), none⟩,
 ⟨(some 41), .bin .eql (.t 40) (.c (.int .i64 0)), none⟩,
 ⟨(some 42), .mv (.t 41), none⟩,
 ⟨(some 43), .mv (.t 4), (some (42, true))⟩,
 ⟨(some 44), .bin .eql (.t 43) (.c (.int .i64 0)), (some (42, true))⟩,
 ⟨(some 45), .pick (.t 42) (.t 44) (.c (.bool false)), none⟩,
 ⟨(some 46), .mv (.t 45), none⟩,
 ⟨(some 47), .mv (.t 5), (some (46, true))⟩,
 ⟨(some 48), .bin .eql (.t 47) (.c (.int .i64 0)), (some (46, true))⟩,
 ⟨(some 49), .pick (.t 46) (.t 48) (.c (.bool false)), none⟩,
 ⟨(some 50), .mv (.t 49), none⟩,
 ⟨(some 51), .mv (.t 7), (some (50, true))⟩,
 ⟨(some 52), .bin .eql (.t 51) (.c (.int .i64 12)), (some (50, true))⟩,
 ⟨(some 53), .pick (.t 50) (.t 52) (.c (.bool false)), none⟩,
 ⟨(some 54), .mv (.t 53), none⟩,
 ⟨(some 55), .mv (.t 9), (some (54, true))⟩,
 ⟨(some 56), .bin .eql (.t 55) (.c (.int .i64 0)), (some (54, true))⟩,
 ⟨(some 57), .pick (.t 54) (.t 56) (.c (.bool false)), none⟩,
 ⟨(some 58), .mv (.t 57), none⟩,
 ⟨(some 59), .mv (.t 8), (some (58, true))⟩,
 ⟨(some 60), .bin .eql (.t 59) (.c (.int .u64 7)), (some (58, true))⟩,
 ⟨(some 61), .pick (.t 58) (.t 60) (.c (.bool false)), none⟩,
 ⟨(some 62), .mv (.t 61), none⟩,
 ⟨(some 63), .mv (.t 1), (some (62, true))⟩,
 ⟨(some 64), .call 26 [(.t 63)], (some (62, true))⟩,
 ⟨(some 65), .bin .eql (.t 64) (.c (.int .i64 3)), (some (62, true))⟩,
 ⟨(some 66), .pick (.t 62) (.t 65) (.c (.bool false)), none⟩,
 ⟨(some 0), .mv (.t 66), none⟩])
 (.ret)

def k13_2 : ACode :=
 .seq (.region [
 ⟨(some 36), .mv (.t 1), none⟩,
 ⟨(some 37), .call 16 [(.t 36), (.c (.int .i64 9))], none⟩,
 ⟨(some 35), .mv (.t 37), none⟩,
 ⟨(some 38), .ext (.t 35) 0, none⟩,
 ⟨(some 39), .ext (.t 35) 1, none⟩,
 ⟨(some 8), .mv (.t 38), none⟩,
 ⟨(some 9), .mv (.t 39), none⟩])
 k13_1

def k13_3 : ACode :=
 .seq (.region [
 ⟨(some 29), .mv (.t 1), none⟩,
 ⟨(some 30), .call 16 [(.t 29), (.c (.int .i64 9))], none⟩,
 ⟨(some 28), .mv (.t 30), none⟩,
 ⟨(some 31), .ext (.t 28) 0, none⟩,
 ⟨(some 32), .ext (.t 28) 1, none⟩,
 ⟨(some 6), .mv (.t 31), none⟩,
 ⟨(some 7), .mv (.t 32), none⟩])
 (.seq (.region [
 ⟨(some 33), .mv (.t 1), none⟩,
 ⟨(some 34), .call 36 [(.t 33)], none⟩])
 k13_2)

def k13_4 : ACode :=
 .seq (.region [
 ⟨(some 20), .mv (.t 1), none⟩,
 ⟨(some 21), .call 17 [(.t 20), (.c (.int .i64 9)), (.c (.int .u64 7))], none⟩,
 ⟨(some 22), .mv (.t 1), none⟩,
 ⟨(some 23), .call 18 [(.t 22), (.c (.int .i64 1))], none⟩,
 ⟨(some 24), .mv (.t 1), none⟩,
 ⟨(some 25), .call 19 [(.t 24)], none⟩,
 ⟨(some 3), .mv (.t 21), none⟩,
 ⟨(some 4), .mv (.t 23), none⟩,
 ⟨(some 5), .mv (.t 25), none⟩])
 (.seq (.region [
 ⟨(some 26), .mv (.t 1), none⟩,
 ⟨(some 27), .call 22 [(.t 26), (.c (.lit (.slice none 0 0)))], none⟩])
 k13_3)

def k13_5 : ACode :=
 .seq (.seq (.region [
 ⟨(some 14), .mv (.t 2), none⟩,
 ⟨(some 15), .bin .neq (.t 14) (.c (.int .i64 0)), none⟩,
 ⟨(some 16), .mv (.t 15), none⟩,
 ⟨(some 17), .mv (.t 1), (some (16, false))⟩,
 ⟨(some 18), .isNil false 0 (.t 17), (some (16, false))⟩,
 ⟨(some 19), .pick (.t 16) (.c (.bool true)) (.t 18), none⟩])
 k13_0)
 k13_4

def k13_6 : ACode :=
 .seq (.region [
 ⟨(some 11), .call 14 [(.c (.int .i64 2))], none⟩,
 ⟨(some 10), .mv (.t 11), none⟩,
 ⟨(some 12), .ext (.t 10) 0, none⟩,
 ⟨(some 13), .ext (.t 10) 1, none⟩,
 ⟨(some 1), .mv (.t 12), none⟩,
 ⟨(some 2), .mv (.t 13), none⟩])
 k13_5

def c13 : ACode :=
 .seq (.region [
 ⟨(some 0), .mv (.c (.bool false)), none⟩])
 k13_6
theorem ok13 : fnOk Try.prog 13 c13 67 [.t 0] = true := by kernel_rfl

end Go.Proofs.Ytfahkkefcdeohaa.Ax
