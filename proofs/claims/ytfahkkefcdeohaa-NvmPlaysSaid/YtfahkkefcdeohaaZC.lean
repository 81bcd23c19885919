/- Texts put behind one another: AxCLib, AxCBase, AxCLaw3, AxCRef. Conditions: none. -/
import Derived.Test.YtfahkkefcdeohaaAxEnterZ
import Derived.Test.YtfahkkefcdeohaaProg
import Derived.KernelRfl
set_option linter.unusedSimpArgs false
set_option linter.unusedVariables false
/- The code of functions of the program, for our abstract machine; each is tied to the program by a closed test. Written by gen.py. Conditions: none. -/
namespace Go.Proofs.Ytfahkkefcdeohaa.Ax
open Go Go.Ax
set_option maxRecDepth 100000

def c2 : ACode := .wild
theorem ok2 : fnOk Try.prog 2 c2 1 [] = true := by kernel_rfl

def k48_0 : ACode := .seq (.region [W1 5 (.mv (.t 0)), W1 6 (.mv (.t 1)), W1 7 (.call 57 [(.t 5), (.t 6)]), W1 8 (.bin .geq (.t 7) (.c (.int .i64 0))), W1 4 (.mv (.t 8))]) (.ret)

def c48 : ACode := .seq (.region [W1 4 (.mv (.c (.bool false)))]) k48_0
theorem ok48 : fnOk Try.prog 48 c48 9 [.t 4] = true := by kernel_rfl

def k56_0 : ACode := .cond (.t 4) (.seq (.region [W1 2 (.mv (.c (.lit (.slice none 0 0))))]) (.ret)) (.skip)

def k56_1 : ACode := .seq (.region [W1 5 (.bsl 1 0 [.int .i64 0] []), W1 6 (.mv (.t 0)), W1 7 (.app 1 8 (.t 5) (.t 6)), W1 2 (.mv (.t 7))]) (.ret)

def k56_2 : ACode := .seq (.seq (.region [W1 3 (.mv (.t 0)), W1 4 (.isNil false 1 (.t 3))]) k56_0) k56_1

def c56 : ACode := .seq (.region [W1 2 (.mv (.c (.lit (.slice none 0 0))))]) k56_2
theorem ok56 : fnOk Try.prog 56 c56 8 [.t 2] = true := by kernel_rfl

def k57_0 : ACode := .cond (.t 16) (.seq (.region [W1 17 (.mv (.t 5)), W1 4 (.mv (.t 17))]) (.ret)) (.skip)

def k57_1 : ACode := .seq (.region [W1 11 (.mv (.t 1)), W1 12 (.mv (.t 0)), W1 13 (.mv (.t 5)), W1 14 (.ixs 1 (.t 12) (.t 13)), W1 15 (.ld none (.t 14)), W1 16 (.bin .eql (.t 11) (.t 15))]) k57_0

def k57_2 : ACode := .seq (.block 1 ( .seq (.region [W1 10 (.mv (.t 8)), W1 5 (.mv (.t 10))]) k57_1)) (.region [W1 18 (.bin .add (.t 8) (.c (.int .i64 1))), W1 8 (.mv (.t 18))])

def b57_3 : ACode := .seq (.region [W1 9 (.bin .lss (.t 8) (.t 7))]) (.seq (.cond (.t 9) (.skip) (.exit 0)) k57_2)

def k57_4 : ACode := .seq (.seq (.region [W1 6 (.mv (.t 0)), W1 7 (.len false (.t 6)), W1 8 (.mv (.c (.int .i64 0)))]) (.block 0 ( .loop b57_3))) (.seq (.region [W1 4 (.mv (.c (.int .i64 (-1))))]) (.ret))

def c57 : ACode := .seq (.region [W1 4 (.mv (.c (.int .i64 0)))]) k57_4
theorem ok57 : fnOk Try.prog 57 c57 19 [.t 4] = true := by kernel_rfl

end Go.Proofs.Ytfahkkefcdeohaa.Ax

/- The code of functions of the program, for our abstract machine; each is tied to the program by a closed test. Written by gen.py. Conditions: none. -/
namespace Go.Proofs.Ytfahkkefcdeohaa.Ax
open Go Go.Ax
set_option maxRecDepth 100000

def k9_0 : ACode := .cond (.t 9) (.seq (.region [W1 6 (.mv (.c (.bool false)))]) (.ret)) (.skip)

def k9_1 : ACode := .seq (.region [W1 16 (.mv (.t 0)), W1 17 (.mv (.t 0)), W1 18 (.nck (.t 16)), W1 19 (.fld 16 (.t 18)), ⟨none, .st 1 (.t 19) (.c (.bool true)), none⟩, W1 20 (.nck (.t 17)), W1 21 (.fld 17 (.t 20)), ⟨none, .st 1 (.t 21) (.c (.bool false)), none⟩]) (.seq (.region [W1 6 (.mv (.c (.bool true)))]) (.ret))

def k9_2 : ACode := .seq (.region [W1 10 (.mv (.t 0)), W1 11 (.mv (.t 1)), W1 12 (.mv (.t 2)), W1 13 (.nck (.t 10)), W1 14 (.fld 8 (.t 13)), W1 15 (.ixa 8 1 (.t 14) (.t 11)), ⟨none, .st 1 (.t 15) (.t 12), none⟩]) k9_1

def k9_3 : ACode := .seq (.seq (.region [W1 7 (.mv (.t 1)), W1 8 (.call 44 [(.t 7)]), W1 9 (.un .not (.t 8))]) k9_0) k9_2

def c9 : ACode := .seq (.region [W1 6 (.mv (.c (.bool false)))]) k9_3
theorem ok9 : fnOk Try.prog 9 c9 22 [.t 6] = true := by kernel_rfl

def c10 : ACode := .region [W1 2 (.mv (.t 0)), W1 3 (.mv (.t 0)), W1 4 (.nck (.t 3)), W1 5 (.fld 17 (.t 4)), W1 6 (.ld none (.t 5)), W1 7 (.mv (.t 6)), ⟨(some 8), .mv (.t 0), (some (7, false))⟩, ⟨(some 9), .nck (.t 8), (some (7, false))⟩, ⟨(some 10), .fld 16 (.t 9), (some (7, false))⟩, ⟨(some 11), .ld none (.t 10), (some (7, false))⟩, W1 12 (.pick (.t 7) (.c (.bool true)) (.t 11)), W1 13 (.nck (.t 2)), W1 14 (.fld 17 (.t 13)), ⟨none, .st 1 (.t 14) (.t 12), none⟩]
theorem ok10 : fnOk Try.prog 10 c10 15 [] = true := by kernel_rfl

def k11_0 : ACode := .seq (.region [W1 3 (.mv (.t 0)), W1 4 (.nck (.t 3)), W1 5 (.fld 17 (.t 4)), W1 6 (.ld none (.t 5)), W1 7 (.mv (.t 6)), ⟨(some 8), .mv (.t 0), (some (7, true))⟩, ⟨(some 9), .call 45 [(.t 8)], (some (7, true))⟩, W1 10 (.pick (.t 7) (.t 9) (.c (.bool false))), W1 2 (.mv (.t 10))]) (.ret)

def c11 : ACode := .seq (.region [W1 2 (.mv (.c (.bool false)))]) k11_0
theorem ok11 : fnOk Try.prog 11 c11 11 [.t 2] = true := by kernel_rfl

def k12_0 : ACode := .seq (.region [W1 13 (.mv (.t 0)), W1 14 (.call 45 [(.t 13)]), W1 4 (.mv (.t 14))]) (.ret)

def k12_1 : ACode := .seq (.region [W1 22 (.mv (.t 0)), W1 23 (.mv (.t 0)), W1 24 (.nck (.t 22)), W1 25 (.fld 16 (.t 24)), ⟨none, .st 1 (.t 25) (.c (.bool false)), none⟩, W1 26 (.nck (.t 23)), W1 27 (.fld 17 (.t 26)), ⟨none, .st 1 (.t 27) (.c (.bool false)), none⟩]) (.seq (.region [W1 4 (.mv (.c (.bool true)))]) (.ret))

def k12_2 : ACode := .seq (.region [W1 15 (.mv (.t 0)), W1 16 (.mv (.t 0)), W1 17 (.nck (.t 16)), W1 18 (.fld 0 (.t 17)), W1 19 (.ld (some 8) (.t 18)), W1 20 (.nck (.t 15)), W1 21 (.fld 8 (.t 20)), ⟨none, .st 8 (.t 21) (.t 19), none⟩]) k12_1

def k12_3 : ACode := .seq (.seq (.region [W1 5 (.mv (.t 1)), W1 6 (.mv (.t 5)), ⟨(some 7), .mv (.t 0), (some (6, false))⟩, ⟨(some 8), .nck (.t 7), (some (6, false))⟩, ⟨(some 9), .fld 16 (.t 8), (some (6, false))⟩, ⟨(some 10), .ld none (.t 9), (some (6, false))⟩, ⟨(some 11), .un .not (.t 10), (some (6, false))⟩, W1 12 (.pick (.t 6) (.c (.bool true)) (.t 11))]) (.cond (.t 12) k12_0 (.skip))) k12_2

def c12 : ACode := .seq (.region [W1 4 (.mv (.c (.bool false)))]) k12_3
theorem ok12 : fnOk Try.prog 12 c12 28 [.t 4] = true := by kernel_rfl

def k14_0 : ACode := .cond (.t 9) (.seq (.region [W1 2 (.mv (.c (.lit (.pointer none)))), W1 3 (.mv (.c (.int .i64 1)))]) (.ret)) (.skip)

def k14_1 : ACode := .seq (.region [W1 10 (.mv (.t 0)), W1 11 (.mks 18 136 [.int .u64 0, .int .u64 0, .int .u64 0, .int .u64 0, .int .u64 0, .int .u64 0, .int .u64 0, .int .u64 0, .int .u64 0, .int .u64 0, .int .u64 0, .int .u64 0, .int .u64 0, .int .u64 0, .int .u64 0, .int .u64 0, .bool false, .bool false] (.t 10) (.t 10)), W1 12 (.build [.lit (.slice none 0 0), .bool false, .int .i64 0, .int .i64 0, .lit (.slice none 0 0)] [(0, 1, (.t 11))]), W1 13 (.box (.t 12)), W1 2 (.mv (.t 13)), W1 3 (.mv (.c (.int .i64 0)))]) (.ret)

def k14_2 : ACode := .seq (.seq (.region [W1 4 (.mv (.t 0)), W1 5 (.bin .lss (.t 4) (.c (.int .i64 1))), W1 6 (.mv (.t 5)), ⟨(some 7), .mv (.t 0), (some (6, false))⟩, ⟨(some 8), .bin .gtr (.t 7) (.c (.int .i64 4096)), (some (6, false))⟩, W1 9 (.pick (.t 6) (.c (.bool true)) (.t 8))]) k14_0) k14_1

def c14 : ACode := .seq (.region [W1 2 (.mv (.c (.lit (.pointer none)))), W1 3 (.mv (.c (.int .i64 0)))]) k14_2
theorem ok14 : fnOk Try.prog 14 c14 14 [.t 2, .t 3] = true := by kernel_rfl

def k15_0 : ACode := .seq (.region [W1 25 (.mv (.t 11)), W1 8 (.mv (.c (.bool false))), W1 9 (.mv (.t 25))]) (.ret)

def k15_1 : ACode := .seq (.region [W1 30 (.mv (.t 11)), W1 31 (.bin .eql (.t 30) (.c (.int .i64 0))), W1 32 (.mv (.t 11)), W1 8 (.mv (.t 31)), W1 9 (.mv (.t 32))]) (.ret)

def k15_2 : ACode := .seq (.region [W1 26 (.mv (.t 0)), W1 27 (.mv (.t 1)), W1 28 (.mv (.t 3)), W1 29 (.call 17 [(.t 26), (.t 27), (.t 28)]), W1 11 (.mv (.t 29))]) k15_1

def k15_3 : ACode := .seq (.seq (.region [W1 18 (.mv (.t 11)), W1 19 (.bin .neq (.t 18) (.c (.int .i64 0))), W1 20 (.mv (.t 19)), ⟨(some 21), .mv (.t 10), (some (20, false))⟩, ⟨(some 22), .mv (.t 2), (some (20, false))⟩, ⟨(some 23), .bin .neq (.t 21) (.t 22), (some (20, false))⟩, W1 24 (.pick (.t 20) (.c (.bool true)) (.t 23))]) (.cond (.t 24) k15_0 (.skip))) k15_2

def k15_4 : ACode := .seq (.region [W1 13 (.mv (.t 0)), W1 14 (.mv (.t 1)), W1 15 (.call 16 [(.t 13), (.t 14)]), W1 12 (.mv (.t 15)), W1 16 (.ext (.t 12) 0), W1 17 (.ext (.t 12) 1), W1 10 (.mv (.t 16)), W1 11 (.mv (.t 17))]) k15_3

def c15 : ACode := .seq (.region [W1 8 (.mv (.c (.bool false))), W1 9 (.mv (.c (.int .i64 0)))]) k15_4
theorem ok15 : fnOk Try.prog 15 c15 33 [.t 8, .t 9] = true := by kernel_rfl

def k16_0 : ACode := .seq (.region [W1 18 (.mv (.t 6)), W1 4 (.mv (.c (.int .u64 0))), W1 5 (.mv (.t 18))]) (.ret)

def k16_1 : ACode := .seq (.region [W1 16 (.mv (.t 6)), W1 17 (.bin .neq (.t 16) (.c (.int .i64 0)))]) (.cond (.t 17) k16_0 (.skip))

def k16_2 : ACode := .seq (.region [W1 19 (.mv (.t 0)), W1 20 (.nck (.t 19)), W1 21 (.fld 0 (.t 20)), W1 22 (.ld none (.t 21)), W1 23 (.mv (.t 1)), W1 24 (.bin .quo (.t 23) (.c (.int .i64 8))), W1 25 (.ixs 18 (.t 22) (.t 24)), W1 26 (.mv (.t 1)), W1 27 (.bin .rem (.t 26) (.c (.int .i64 8))), W1 28 (.call 43 [(.t 25), (.t 27)]), W1 4 (.mv (.t 28)), W1 5 (.mv (.c (.int .i64 0)))]) (.ret)

def k16_3 : ACode := .seq (.seq (.region [W1 7 (.mv (.t 0)), W1 8 (.mv (.t 1)), W1 9 (.mv (.t 0)), W1 10 (.nck (.t 9)), W1 11 (.fld 0 (.t 10)), W1 12 (.ld none (.t 11)), W1 13 (.len false (.t 12)), W1 14 (.bin .mul (.t 13) (.c (.int .i64 8))), W1 15 (.call 46 [(.t 7), (.t 8), (.t 14)]), W1 6 (.mv (.t 15))]) k16_1) k16_2

def c16 : ACode := .seq (.region [W1 4 (.mv (.c (.int .u64 0))), W1 5 (.mv (.c (.int .i64 0)))]) k16_3
theorem ok16 : fnOk Try.prog 16 c16 29 [.t 4, .t 5] = true := by kernel_rfl

def k17_0 : ACode := .cond (.t 18) (.seq (.region [W1 19 (.mv (.t 7)), W1 6 (.mv (.t 19))]) (.ret)) (.skip)

def k17_1 : ACode := .cond (.t 22) (.seq (.region [W1 6 (.mv (.c (.int .i64 12)))]) (.ret)) (.skip)

def k17_2 : ACode := .seq (.region [W1 23 (.mv (.t 0)), W1 24 (.nck (.t 23)), W1 25 (.fld 0 (.t 24)), W1 26 (.ld none (.t 25)), W1 27 (.mv (.t 1)), W1 28 (.bin .quo (.t 27) (.c (.int .i64 8))), W1 29 (.ixs 18 (.t 26) (.t 28)), W1 30 (.mv (.t 1)), W1 31 (.bin .rem (.t 30) (.c (.int .i64 8))), W1 32 (.mv (.t 2)), W1 33 (.call 9 [(.t 29), (.t 31), (.t 32)])]) (.seq (.region [W1 6 (.mv (.c (.int .i64 0)))]) (.ret))

def k17_3 : ACode := .seq (.seq (.region [W1 20 (.mv (.t 0)), W1 21 (.call 47 [(.t 20)]), W1 22 (.un .not (.t 21))]) k17_1) k17_2

def k17_4 : ACode := .seq (.seq (.region [W1 8 (.mv (.t 0)), W1 9 (.mv (.t 1)), W1 10 (.mv (.t 0)), W1 11 (.nck (.t 10)), W1 12 (.fld 0 (.t 11)), W1 13 (.ld none (.t 12)), W1 14 (.len false (.t 13)), W1 15 (.bin .mul (.t 14) (.c (.int .i64 8))), W1 16 (.call 46 [(.t 8), (.t 9), (.t 15)]), W1 7 (.mv (.t 16))]) (.seq (.region [W1 17 (.mv (.t 7)), W1 18 (.bin .neq (.t 17) (.c (.int .i64 0)))]) k17_0)) k17_3

def c17 : ACode := .seq (.region [W1 6 (.mv (.c (.int .i64 0)))]) k17_4
theorem ok17 : fnOk Try.prog 17 c17 34 [.t 6] = true := by kernel_rfl

def k18_0 : ACode := .cond (.t 15) (.seq (.region [W1 16 (.mv (.t 5)), W1 4 (.mv (.t 16))]) (.ret)) (.skip)

def k18_1 : ACode := .cond (.t 19) (.seq (.region [W1 4 (.mv (.c (.int .i64 12)))]) (.ret)) (.skip)

def k18_2 : ACode := .seq (.region [W1 20 (.mv (.t 0)), W1 21 (.nck (.t 20)), W1 22 (.fld 0 (.t 21)), W1 23 (.ld none (.t 22)), W1 24 (.mv (.t 1)), W1 25 (.ixs 18 (.t 23) (.t 24)), W1 26 (.call 10 [(.t 25)])]) (.seq (.region [W1 4 (.mv (.c (.int .i64 0)))]) (.ret))

def k18_3 : ACode := .seq (.seq (.region [W1 17 (.mv (.t 0)), W1 18 (.call 47 [(.t 17)]), W1 19 (.un .not (.t 18))]) k18_1) k18_2

def k18_4 : ACode := .seq (.seq (.region [W1 6 (.mv (.t 0)), W1 7 (.mv (.t 1)), W1 8 (.mv (.t 0)), W1 9 (.nck (.t 8)), W1 10 (.fld 0 (.t 9)), W1 11 (.ld none (.t 10)), W1 12 (.len false (.t 11)), W1 13 (.call 46 [(.t 6), (.t 7), (.t 12)]), W1 5 (.mv (.t 13))]) (.seq (.region [W1 14 (.mv (.t 5)), W1 15 (.bin .neq (.t 14) (.c (.int .i64 0)))]) k18_0)) k18_3

def c18 : ACode := .seq (.region [W1 4 (.mv (.c (.int .i64 0)))]) k18_4
theorem ok18 : fnOk Try.prog 18 c18 27 [.t 4] = true := by kernel_rfl

def k19_0 : ACode := .cond (.t 8) (.seq (.region [W1 9 (.mv (.t 3)), W1 2 (.mv (.t 9))]) (.ret)) (.skip)

def k19_1 : ACode := .cond (.t 12) (.seq (.region [W1 2 (.mv (.c (.int .i64 12)))]) (.ret)) (.skip)

def k19_2 : ACode := .region [W1 21 (.mv (.t 0)), W1 22 (.nck (.t 21)), W1 23 (.fld 0 (.t 22)), W1 24 (.ld none (.t 23)), W1 25 (.mv (.t 4)), W1 26 (.ixs 18 (.t 24) (.t 25)), W1 27 (.call 11 [(.t 26)])]

def k19_3 : ACode := .seq (.block 1 ( .seq (.region [W1 20 (.mv (.t 18)), W1 4 (.mv (.t 20))]) k19_2)) (.region [W1 28 (.bin .add (.t 18) (.c (.int .i64 1))), W1 18 (.mv (.t 28))])

def b19_4 : ACode := .seq (.region [W1 19 (.bin .lss (.t 18) (.t 17))]) (.seq (.cond (.t 19) (.skip) (.exit 0)) k19_3)

def k19_5 : ACode := .seq (.seq (.region [W1 13 (.mv (.t 0)), W1 14 (.nck (.t 13)), W1 15 (.fld 0 (.t 14)), W1 16 (.ld none (.t 15)), W1 17 (.len false (.t 16)), W1 18 (.mv (.c (.int .i64 0)))]) (.block 0 ( .loop b19_4))) (.seq (.region [W1 2 (.mv (.c (.int .i64 0)))]) (.ret))

def k19_6 : ACode := .seq (.seq (.region [W1 10 (.mv (.t 0)), W1 11 (.call 47 [(.t 10)]), W1 12 (.un .not (.t 11))]) k19_1) k19_5

def k19_7 : ACode := .seq (.seq (.region [W1 5 (.mv (.t 0)), W1 6 (.call 46 [(.t 5), (.c (.int .i64 0)), (.c (.int .i64 1))]), W1 3 (.mv (.t 6))]) (.seq (.region [W1 7 (.mv (.t 3)), W1 8 (.bin .neq (.t 7) (.c (.int .i64 0)))]) k19_0)) k19_6

def c19 : ACode := .seq (.region [W1 2 (.mv (.c (.int .i64 0)))]) k19_7
theorem ok19 : fnOk Try.prog 19 c19 29 [.t 2] = true := by kernel_rfl

def k20_0 : ACode := .region [W1 18 (.mv (.t 3)), W1 19 (.mv (.t 4)), W1 20 (.bsl 1 1 [.int .i64 0] [(0, (.t 19))]), W1 21 (.app 1 8 (.t 18) (.t 20)), W1 3 (.mv (.t 21))]

def k20_1 : ACode := .seq (.region [W1 16 (.fld 16 (.t 5)), W1 17 (.ld none (.t 16))]) (.cond (.t 17) k20_0 (.skip))

def k20_2 : ACode := .seq (.block 1 ( .seq (.region [W1 13 (.mv (.t 11)), W1 14 (.ixs 18 (.t 9) (.t 11)), W1 15 (.ld (some 18) (.t 14)), W1 5 (.new [.int .u64 0, .int .u64 0, .int .u64 0, .int .u64 0, .int .u64 0, .int .u64 0, .int .u64 0, .int .u64 0, .int .u64 0, .int .u64 0, .int .u64 0, .int .u64 0, .int .u64 0, .int .u64 0, .int .u64 0, .int .u64 0, .bool false, .bool false]), W1 4 (.mv (.t 13)), ⟨none, .st 18 (.t 5) (.t 15), none⟩]) k20_1)) (.region [W1 22 (.bin .add (.t 11) (.c (.int .i64 1))), W1 11 (.mv (.t 22))])

def b20_3 : ACode := .seq (.region [W1 12 (.bin .lss (.t 11) (.t 10))]) (.seq (.cond (.t 12) (.skip) (.exit 0)) k20_2)

def k20_4 : ACode := .seq (.seq (.region [W1 6 (.mv (.t 0)), W1 7 (.nck (.t 6)), W1 8 (.fld 0 (.t 7)), W1 9 (.ld none (.t 8)), W1 10 (.len false (.t 9)), W1 11 (.mv (.c (.int .i64 0)))]) (.block 0 ( .loop b20_3))) (.seq (.region [W1 23 (.mv (.t 3)), W1 2 (.mv (.t 23))]) (.ret))

def c20 : ACode := .seq (.region [W1 2 (.mv (.c (.lit (.slice none 0 0))))]) (.seq (.region [W1 3 (.mv (.c (.lit (.slice none 0 0))))]) k20_4)
theorem ok20 : fnOk Try.prog 20 c20 24 [.t 2] = true := by kernel_rfl

def k21_0 : ACode := .region [W1 22 (.mv (.t 3)), W1 23 (.fld 8 (.t 5)), W1 24 (.sla 8 (.t 23) none none), W1 25 (.app 1 8 (.t 22) (.t 24)), W1 3 (.mv (.t 25))]

def k21_1 : ACode := .seq (.block 1 ( .seq (.region [W1 20 (.ixs 18 (.t 16) (.t 18)), W1 21 (.ld (some 18) (.t 20)), W1 5 (.new [.int .u64 0, .int .u64 0, .int .u64 0, .int .u64 0, .int .u64 0, .int .u64 0, .int .u64 0, .int .u64 0, .int .u64 0, .int .u64 0, .int .u64 0, .int .u64 0, .int .u64 0, .int .u64 0, .int .u64 0, .int .u64 0, .bool false, .bool false]), ⟨none, .st 18 (.t 5) (.t 21), none⟩]) k21_0)) (.region [W1 26 (.bin .add (.t 18) (.c (.int .i64 1))), W1 18 (.mv (.t 26))])

def b21_2 : ACode := .seq (.region [W1 19 (.bin .lss (.t 18) (.t 17))]) (.seq (.cond (.t 19) (.skip) (.exit 0)) k21_1)

def k21_3 : ACode := .seq (.seq (.region [W1 13 (.mv (.t 0)), W1 14 (.nck (.t 13)), W1 15 (.fld 0 (.t 14)), W1 16 (.ld none (.t 15)), W1 17 (.len false (.t 16)), W1 18 (.mv (.c (.int .i64 0)))]) (.block 0 ( .loop b21_2))) (.seq (.region [W1 27 (.mv (.t 3)), W1 2 (.mv (.t 27))]) (.ret))

def k21_4 : ACode := .seq (.region [W1 6 (.mv (.t 0)), W1 7 (.nck (.t 6)), W1 8 (.fld 0 (.t 7)), W1 9 (.ld none (.t 8)), W1 10 (.len false (.t 9)), W1 11 (.bin .mul (.t 10) (.c (.int .i64 8))), W1 12 (.mks 1 8 [.int .u64 0] (.c (.int .i64 0)) (.t 11)), W1 3 (.mv (.t 12))]) k21_3

def c21 : ACode := .seq (.region [W1 2 (.mv (.c (.lit (.slice none 0 0))))]) k21_4
theorem ok21 : fnOk Try.prog 21 c21 28 [.t 2] = true := by kernel_rfl

def k22_0 : ACode := .drawn [(0, W1 17 (.mv (.t 0))), (1, W1 18 (.nck (.t 17))), (2, W1 19 (.fld 0 (.t 18))), (3, W1 20 (.ld none (.t 19))), (4, W1 21 (.mv (.t 4))), (5, W1 22 (.ixs 18 (.t 20) (.t 21))), (6, W1 23 (.mv (.t 1))), (7, W1 24 (.mv (.t 4))), (8, W1 25 (.call 48 [(.t 23), (.t 24)])), (9, W1 26 (.call 12 [(.t 22), (.t 25)]))] [[], [0], [1], [2], [], [3, 4], [], [], [6, 7], [5, 8, 8]] 0

def k22_1 : ACode := .seq (.block 1 ( .seq (.region [W1 16 (.mv (.t 14)), W1 4 (.mv (.t 16))]) k22_0)) (.region [W1 27 (.bin .add (.t 14) (.c (.int .i64 1))), W1 14 (.mv (.t 27))])

def b22_2 : ACode := .seq (.region [W1 15 (.bin .lss (.t 14) (.t 13))]) (.seq (.cond (.t 15) (.skip) (.exit 0)) k22_1)

def k22_3 : ACode := .region [W1 31 (.mv (.t 0)), W1 32 (.nck (.t 31)), W1 33 (.fld 3 (.t 32)), ⟨none, .st 1 (.t 33) (.c (.int .i64 0)), none⟩]

def k22_4 : ACode := .seq (.region [W1 28 (.mv (.t 0)), W1 29 (.nck (.t 28)), W1 30 (.fld 1 (.t 29)), ⟨none, .st 1 (.t 30) (.c (.bool true)), none⟩]) k22_3

def k22_5 : ACode := .seq (.seq (.region [W1 9 (.mv (.t 0)), W1 10 (.nck (.t 9)), W1 11 (.fld 0 (.t 10)), W1 12 (.ld none (.t 11)), W1 13 (.len false (.t 12)), W1 14 (.mv (.c (.int .i64 0)))]) (.block 0 ( .loop b22_2))) k22_4

def c22 : ACode := .seq (.seq (.region [W1 5 (.mv (.t 0)), W1 6 (.nck (.t 5)), W1 7 (.fld 1 (.t 6)), W1 8 (.ld none (.t 7))]) (.cond (.t 8) (.ret) (.skip))) k22_5
theorem ok22 : fnOk Try.prog 22 c22 34 [] = true := by kernel_rfl

def k24_0 : ACode := .seq (.region [W1 3 (.mv (.t 0)), W1 4 (.nck (.t 3)), W1 5 (.fld 0 (.t 4)), W1 6 (.ld none (.t 5)), W1 7 (.len false (.t 6)), W1 2 (.mv (.t 7))]) (.ret)

def c24 : ACode := .seq (.region [W1 2 (.mv (.c (.int .i64 0)))]) k24_0
theorem ok24 : fnOk Try.prog 24 c24 8 [.t 2] = true := by kernel_rfl

def k26_0 : ACode := .seq (.region [W1 3 (.mv (.t 0)), W1 4 (.nck (.t 3)), W1 5 (.fld 2 (.t 4)), W1 6 (.ld none (.t 5)), W1 2 (.mv (.t 6))]) (.ret)

def c26 : ACode := .seq (.region [W1 2 (.mv (.c (.int .i64 0)))]) k26_0
theorem ok26 : fnOk Try.prog 26 c26 7 [.t 2] = true := by kernel_rfl

def k27_0 : ACode := .seq (.region [W1 3 (.mv (.t 0)), W1 4 (.nck (.t 3)), W1 5 (.fld 1 (.t 4)), W1 6 (.ld none (.t 5)), W1 2 (.mv (.t 6))]) (.ret)

def c27 : ACode := .seq (.region [W1 2 (.mv (.c (.bool false)))]) k27_0
theorem ok27 : fnOk Try.prog 27 c27 7 [.t 2] = true := by kernel_rfl

def k33_0 : ACode := .cond (.t 15) (.seq (.region [W1 16 (.mv (.t 5)), W1 4 (.mv (.t 16))]) (.ret)) (.skip)

def k33_1 : ACode := .seq (.region [W1 17 (.mv (.t 0)), W1 18 (.nck (.t 17)), W1 19 (.fld 0 (.t 18)), W1 20 (.ld none (.t 19)), W1 21 (.mv (.t 1)), W1 22 (.ixs 18 (.t 20) (.t 21)), W1 23 (.call 45 [(.t 22)])]) (.seq (.region [W1 4 (.mv (.c (.int .i64 0)))]) (.ret))

def k33_2 : ACode := .seq (.seq (.region [W1 6 (.mv (.t 0)), W1 7 (.mv (.t 1)), W1 8 (.mv (.t 0)), W1 9 (.nck (.t 8)), W1 10 (.fld 0 (.t 9)), W1 11 (.ld none (.t 10)), W1 12 (.len false (.t 11)), W1 13 (.call 46 [(.t 6), (.t 7), (.t 12)]), W1 5 (.mv (.t 13))]) (.seq (.region [W1 14 (.mv (.t 5)), W1 15 (.bin .neq (.t 14) (.c (.int .i64 0)))]) k33_0)) k33_1

def c33 : ACode := .seq (.region [W1 4 (.mv (.c (.int .i64 0)))]) k33_2
theorem ok33 : fnOk Try.prog 33 c33 24 [.t 4] = true := by kernel_rfl

def c36 : ACode := .region [W1 2 (.mv (.t 0)), W1 3 (.nck (.t 2)), W1 4 (.fld 1 (.t 3)), ⟨none, .st 1 (.t 4) (.c (.bool false)), none⟩]
theorem ok36 : fnOk Try.prog 36 c36 5 [] = true := by kernel_rfl

def k37_0 : ACode := .region [W1 15 (.mv (.t 0)), W1 16 (.mv (.t 2)), W1 17 (.call 56 [(.t 16)]), W1 18 (.nck (.t 15)), W1 19 (.fld 4 (.t 18)), ⟨none, .st 1 (.t 19) (.t 17), none⟩]

def k37_1 : ACode := .seq (.region [W1 10 (.mv (.t 0)), W1 11 (.mv (.t 1)), W1 12 (.mxn true [(.t 11), (.c (.int .i64 0))]), W1 13 (.nck (.t 10)), W1 14 (.fld 3 (.t 13)), ⟨none, .st 1 (.t 14) (.t 12), none⟩]) k37_0

def c37 : ACode := .seq (.seq (.region [W1 6 (.mv (.t 0)), W1 7 (.nck (.t 6)), W1 8 (.fld 1 (.t 7)), W1 9 (.ld none (.t 8))]) (.cond (.t 9) (.ret) (.skip))) k37_1
theorem ok37 : fnOk Try.prog 37 c37 20 [] = true := by kernel_rfl

def k43_0 : ACode := .cond (.t 7) (.seq (.region [W1 4 (.mv (.c (.int .u64 0)))]) (.ret)) (.skip)

def k43_1 : ACode := .seq (.region [W1 8 (.mv (.t 0)), W1 9 (.mv (.t 1)), W1 10 (.nck (.t 8)), W1 11 (.fld 8 (.t 10)), W1 12 (.ixa 8 1 (.t 11) (.t 9)), W1 13 (.ld none (.t 12)), W1 4 (.mv (.t 13))]) (.ret)

def k43_2 : ACode := .seq (.seq (.region [W1 5 (.mv (.t 1)), W1 6 (.call 44 [(.t 5)]), W1 7 (.un .not (.t 6))]) k43_0) k43_1

def c43 : ACode := .seq (.region [W1 4 (.mv (.c (.int .u64 0)))]) k43_2
theorem ok43 : fnOk Try.prog 43 c43 14 [.t 4] = true := by kernel_rfl

def k44_0 : ACode := .seq (.region [W1 3 (.mv (.t 0)), W1 4 (.bin .geq (.t 3) (.c (.int .i64 0))), W1 5 (.mv (.t 4)), ⟨(some 6), .mv (.t 0), (some (5, true))⟩, ⟨(some 7), .bin .lss (.t 6) (.c (.int .i64 8)), (some (5, true))⟩, W1 8 (.pick (.t 5) (.t 7) (.c (.bool false))), W1 2 (.mv (.t 8))]) (.ret)

def c44 : ACode := .seq (.region [W1 2 (.mv (.c (.bool false)))]) k44_0
theorem ok44 : fnOk Try.prog 44 c44 9 [.t 2] = true := by kernel_rfl

def k45_0 : ACode := .cond (.t 7) (.seq (.region [W1 2 (.mv (.c (.bool false)))]) (.ret)) (.skip)

def k45_1 : ACode := .seq (.region [W1 15 (.mv (.t 0)), W1 16 (.mv (.t 0)), W1 17 (.nck (.t 15)), W1 18 (.fld 16 (.t 17)), ⟨none, .st 1 (.t 18) (.c (.bool false)), none⟩, W1 19 (.nck (.t 16)), W1 20 (.fld 17 (.t 19)), ⟨none, .st 1 (.t 20) (.c (.bool false)), none⟩]) (.seq (.region [W1 2 (.mv (.c (.bool true)))]) (.ret))

def k45_2 : ACode := .seq (.region [W1 8 (.mv (.t 0)), W1 9 (.mv (.t 0)), W1 10 (.nck (.t 9)), W1 11 (.fld 8 (.t 10)), W1 12 (.ld (some 8) (.t 11)), W1 13 (.nck (.t 8)), W1 14 (.fld 0 (.t 13)), ⟨none, .st 8 (.t 14) (.t 12), none⟩]) k45_1

def k45_3 : ACode := .seq (.seq (.region [W1 3 (.mv (.t 0)), W1 4 (.nck (.t 3)), W1 5 (.fld 16 (.t 4)), W1 6 (.ld none (.t 5)), W1 7 (.un .not (.t 6))]) k45_0) k45_2

def c45 : ACode := .seq (.region [W1 2 (.mv (.c (.bool false)))]) k45_3
theorem ok45 : fnOk Try.prog 45 c45 21 [.t 2] = true := by kernel_rfl

def k46_0 : ACode := .cond (.t 12) (.seq (.region [W1 6 (.mv (.c (.int .i64 1)))]) (.ret)) (.skip)

def k46_1 : ACode := .seq (.region [W1 13 (.mv (.t 1)), W1 14 (.bin .lss (.t 13) (.c (.int .i64 0))), W1 15 (.mv (.t 14)), ⟨(some 16), .mv (.t 1), (some (15, false))⟩, ⟨(some 17), .mv (.t 2), (some (15, false))⟩, ⟨(some 18), .bin .geq (.t 16) (.t 17), (some (15, false))⟩, W1 19 (.pick (.t 15) (.c (.bool true)) (.t 18)), W1 12 (.mv (.t 19))]) k46_0

def k46_2 : ACode := .cond (.t 7) (.seq (.region [W1 6 (.mv (.c (.int .i64 12)))]) (.ret)) k46_1

def k46_3 : ACode := .seq (.block 0 ( .seq (.region [W1 8 (.mv (.t 0)), W1 9 (.nck (.t 8)), W1 10 (.fld 1 (.t 9)), W1 11 (.ld none (.t 10)), W1 7 (.mv (.t 11))]) k46_2)) (.seq (.region [W1 6 (.mv (.c (.int .i64 0)))]) (.ret))

def c46 : ACode := .seq (.region [W1 6 (.mv (.c (.int .i64 0)))]) k46_3
theorem ok46 : fnOk Try.prog 46 c46 20 [.t 6] = true := by kernel_rfl

def k47_0 : ACode := .seq (.region [W1 20 (.mv (.t 0)), W1 21 (.mv (.t 0)), W1 22 (.nck (.t 21)), W1 23 (.fld 4 (.t 22)), W1 24 (.ld none (.t 23)), W1 25 (.call 22 [(.t 20), (.t 24)])]) (.seq (.region [W1 2 (.mv (.c (.bool false)))]) (.ret))

def k47_1 : ACode := .seq (.region [W1 15 (.mv (.t 0)), W1 16 (.nck (.t 15)), W1 17 (.fld 3 (.t 16)), W1 18 (.ld none (.t 17)), W1 19 (.bin .eql (.t 18) (.c (.int .i64 0)))]) (.cond (.t 19) k47_0 (.skip))

def k47_2 : ACode := .seq (.region [W1 8 (.mv (.t 0)), W1 9 (.nck (.t 8)), W1 10 (.fld 3 (.t 9)), W1 11 (.ld none (.t 10)), W1 12 (.bin .sub (.t 11) (.c (.int .i64 1))), W1 13 (.nck (.t 8)), W1 14 (.fld 3 (.t 13)), ⟨none, .st 1 (.t 14) (.t 12), none⟩]) k47_1

def k47_3 : ACode := .seq (.region [W1 26 (.mv (.t 0)), W1 27 (.nck (.t 26)), W1 28 (.fld 2 (.t 27)), W1 29 (.ld none (.t 28)), W1 30 (.bin .add (.t 29) (.c (.int .i64 1))), W1 31 (.nck (.t 26)), W1 32 (.fld 2 (.t 31)), ⟨none, .st 1 (.t 32) (.t 30), none⟩]) (.seq (.region [W1 2 (.mv (.c (.bool true)))]) (.ret))

def k47_4 : ACode := .seq (.seq (.region [W1 3 (.mv (.t 0)), W1 4 (.nck (.t 3)), W1 5 (.fld 3 (.t 4)), W1 6 (.ld none (.t 5)), W1 7 (.bin .gtr (.t 6) (.c (.int .i64 0)))]) (.cond (.t 7) k47_2 (.skip))) k47_3

def c47 : ACode := .seq (.region [W1 2 (.mv (.c (.bool false)))]) k47_4
theorem ok47 : fnOk Try.prog 47 c47 33 [.t 2] = true := by kernel_rfl

end Go.Proofs.Ytfahkkefcdeohaa.Ax

/- The code of functions of the program, for our abstract machine; each is tied to the program by a closed test. Written by gen.py. Conditions: none. -/
namespace Go.Proofs.Ytfahkkefcdeohaa.Ax
open Go Go.Ax
set_option maxRecDepth 100000

def k4_0 : ACode := .cond (.t 13) (.seq (.region [W1 2 (.mv (.c (.bool false)))]) (.ret)) (.skip)

def k4_1 : ACode := .cond (.t 16) (.seq (.region [W1 2 (.mv (.c (.bool true)))]) (.ret)) (.skip)

def k4_2 : ACode := .cond (.t 22) (.seq (.region [W1 2 (.mv (.c (.bool false)))]) (.ret)) (.skip)

def k4_3 : ACode := .cond (.t 66) (.seq (.region [W1 2 (.mv (.c (.bool false)))]) (.ret)) (.skip)

def k4_4 : ACode := .region [W1 68 (.mv (.t 7)), W1 69 (.mv (.t 0)), W1 70 (.mv (.t 6)), W1 71 (.ixs 5 (.t 69) (.t 70)), W1 72 (.fld 3 (.t 71)), W1 73 (.ld none (.t 72)), W1 74 (.ixa 8 1 (.t 5) (.t 68)), ⟨none, .st 1 (.t 74) (.t 73), none⟩]

def k4_5 : ACode := .cond (.t 89) (.seq (.region [W1 2 (.mv (.c (.bool false)))]) (.ret)) (.skip)

def k4_6 : ACode := .seq (.region [W1 81 (.mv (.t 11)), W1 82 (.bin .neq (.t 81) (.c (.int .i64 0))), W1 83 (.mv (.t 82)), ⟨(some 84), .mv (.t 10), (some (83, false))⟩, ⟨(some 85), .mv (.t 7), (some (83, false))⟩, ⟨(some 86), .ixa 8 1 (.t 5) (.t 85), (some (83, false))⟩, ⟨(some 87), .ld none (.t 86), (some (83, false))⟩, ⟨(some 88), .bin .neq (.t 84) (.t 87), (some (83, false))⟩, W1 89 (.pick (.t 83) (.c (.bool true)) (.t 88))]) k4_5

def k4_7 : ACode := .seq (.region [W1 76 (.mv (.t 3)), W1 77 (.mv (.t 7)), W1 78 (.call 16 [(.t 76), (.t 77)]), W1 75 (.mv (.t 78)), W1 79 (.ext (.t 75) 0), W1 80 (.ext (.t 75) 1), W1 10 (.mv (.t 79)), W1 11 (.mv (.t 80))]) k4_6

def k4_8 : ACode := .seq (.seq (.region [W1 67 (.mv (.t 8))]) (.cond (.t 67) k4_4 (.skip))) k4_7

def k4_9 : ACode := .seq (.seq (.drawn [(0, W1 52 (.mv (.t 9))), (1, W1 53 (.bin .neq (.t 52) (.c (.int .i64 0)))), (2, W1 54 (.mv (.t 53))), (4, ⟨(some 56), .mv (.t 7), (some (54, false))⟩), (5, ⟨(some 57), .ixa 8 1 (.t 5) (.t 56), (some (54, false))⟩), (6, ⟨(some 58), .ld none (.t 57), (some (54, false))⟩), (7, ⟨(some 59), .mv (.t 0), (some (54, false))⟩), (8, ⟨(some 60), .mv (.t 6), (some (54, false))⟩), (9, ⟨(some 61), .ixs 5 (.t 59) (.t 60), (some (54, false))⟩), (10, ⟨(some 62), .fld 2 (.t 61), (some (54, false))⟩), (11, ⟨(some 63), .ld none (.t 62), (some (54, false))⟩),
 (3, ⟨(some 55), .mv (.t 8), (some (54, false))⟩), (12, ⟨(some 64), .bin .eql (.t 58) (.t 63), (some (54, false))⟩), (13, ⟨(some 65), .eqb true (.t 55) (.t 64), (some (54, false))⟩), (14, W1 66 (.pick (.t 54) (.c (.bool true)) (.t 65)))] [[], [0], [1], [2], [2], [4, 2], [5, 2], [2], [2], [7, 8, 2], [9, 2], [10, 2], [6, 11, 2], [3, 12, 2], [2, 13]] 0) k4_3) k4_8

def k4_10 : ACode := .seq (.drawn [(2, W1 39 (.mv (.t 0))), (3, W1 40 (.mv (.t 6))), (4, W1 41 (.ixs 5 (.t 39) (.t 40))), (5, W1 42 (.fld 2 (.t 41))), (6, W1 43 (.ld none (.t 42))), (7, W1 44 (.mv (.t 0))), (8, W1 45 (.mv (.t 6))), (9, W1 46 (.ixs 5 (.t 44) (.t 45))), (10, W1 47 (.fld 3 (.t 46))), (11, W1 48 (.ld none (.t 47))), (0, W1 37 (.mv (.t 3))), (1, W1 38 (.mv (.t 7))), (12, W1 49 (.call 15 [(.t 37), (.t 38), (.t 43), (.t 48)])), (13, W1 36 (.mv (.t 49))), (14, W1 50 (.ext (.t 36) 0)), (15, W1 51 (.ext (.t 36) 1)), (16, W1 8 (.mv (.t 50))), (17, W1 9 (.mv (.t 51)))]
 [[], [], [], [], [2, 3], [4], [5], [], [], [7, 8], [9], [10], [0, 1, 6, 11], [12], [13], [13], [14, 12, 0, 1, 2, 3, 4, 5, 6, 7, 8, 9, 10, 11, 12, 13, 14], [15, 16, 0, 1, 2, 3, 4, 5, 6, 7, 8, 9, 10, 11, 12, 13, 14, 15, 16]] 0) k4_9

def k4_11 : ACode := .seq (.block 1 ( .seq (.region [W1 30 (.mv (.t 0)), W1 31 (.mv (.t 6)), W1 32 (.ixs 5 (.t 30) (.t 31)), W1 33 (.fld 1 (.t 32)), W1 34 (.ld none (.t 33)), W1 35 (.bin .and (.t 34) (.c (.int .i64 7))), W1 7 (.mv (.t 35))]) k4_10)) (.region [W1 28 (.mv (.t 6)), W1 29 (.bin .add (.t 28) (.c (.int .i64 1))), W1 6 (.mv (.t 29))])

def b4_12 : ACode := .seq (.seq (.region [W1 24 (.mv (.t 6)), W1 25 (.mv (.t 0)), W1 26 (.len false (.t 25)), W1 27 (.bin .lss (.t 24) (.t 26))]) (.cond (.t 27) (.skip) (.exit 0))) k4_11

def k4_13 : ACode := .seq (.seq (.region [W1 6 (.mv (.c (.int .i64 0)))]) (.block 0 ( .loop b4_12))) (.seq (.region [W1 2 (.mv (.c (.bool true)))]) (.ret))

def k4_14 : ACode := .seq (.region [W1 23 (.build [.int .u64 0, .int .u64 0, .int .u64 0, .int .u64 0, .int .u64 0, .int .u64 0, .int .u64 0, .int .u64 0] []), W1 5 (.new [.int .u64 0, .int .u64 0, .int .u64 0, .int .u64 0, .int .u64 0, .int .u64 0, .int .u64 0, .int .u64 0]), ⟨none, .st 8 (.t 5) (.t 23), none⟩]) k4_13

def k4_15 : ACode := .seq (.seq (.region [W1 21 (.mv (.t 3)), W1 22 (.isNil false 0 (.t 21))]) k4_2) k4_14

def k4_16 : ACode := .seq (.region [W1 18 (.call 14 [(.c (.int .i64 1))]), W1 17 (.mv (.t 18)), W1 19 (.ext (.t 17) 0), W1 20 (.ext (.t 17) 1), W1 3 (.mv (.t 19)), W1 4 (.mv (.t 20))]) k4_15

def k4_17 : ACode := .seq (.seq (.region [W1 14 (.mv (.t 0)), W1 15 (.len false (.t 14)), W1 16 (.bin .gtr (.t 15) (.c (.int .i64 60)))]) k4_1) k4_16

def k4_18 : ACode := .seq (.seq (.region [W1 12 (.call 13 []), W1 13 (.un .not (.t 12))]) k4_0) k4_17

def c4 : ACode := .seq (.region [W1 2 (.mv (.c (.bool false)))]) k4_18
theorem ok4 : fnOk Try.prog 4 c4 90 [.t 2] = true := by kernel_rfl

def k7_0 : ACode := .cond (.t 20) (.seq (.region [W1 4 (.mv (.c (.bool false)))]) (.ret)) (.skip)

def k7_1 : ACode := .cond (.t 27) (.seq (.region [W1 4 (.mv (.c (.bool true)))]) (.ret)) (.skip)

def k7_2 : ACode := .seq (.region [W1 37 (.mv (.t 6)), W1 38 (.bin .eql (.t 37) (.c (.int .i64 1))), W1 39 (.mv (.t 38)), ⟨(some 40), .mv (.t 5), (some (39, true))⟩, ⟨(some 41), .isNil false 0 (.t 40), (some (39, true))⟩, W1 42 (.pick (.t 39) (.t 41) (.c (.bool false))), W1 4 (.mv (.t 42))]) (.ret)

def k7_3 : ACode := .cond (.t 48) (.seq (.region [W1 4 (.mv (.c (.bool false)))]) (.ret)) (.skip)

def k7_4 : ACode := .cond (.t 62) (.seq (.region [W1 4 (.mv (.c (.bool true)))]) (.ret)) (.skip)

def k7_5 : ACode := .drawn [(1, W1 80 (.fld 1 (.t 9))), (2, W1 81 (.ld none (.t 80))), (3, W1 82 (.fld 3 (.t 9))), (4, W1 83 (.ld none (.t 82))), (7, W1 86 (.fld 1 (.t 9))), (8, W1 87 (.ld none (.t 86))), (9, W1 88 (.fld 3 (.t 9))), (10, W1 89 (.ld none (.t 88))), (0, W1 79 (.mv (.t 5))), (5, W1 84 (.call 17 [(.t 79), (.t 81), (.t 83)])), (6, W1 85 (.mv (.t 7))), (11, W1 90 (.call 29 [(.t 85), (.t 87), (.t 89)])), (12, W1 91 (.bin .eql (.t 84) (.t 90))), (13, W1 10 (.mv (.t 91)))]
 [[], [], [1], [], [3], [0, 2, 4], [], [], [7], [], [9], [6, 8, 10, 5], [5, 11], [12, 11, 0, 1, 2, 3, 4, 5, 6, 7, 8, 9, 10, 11, 12]] 0

def k7_6 : ACode := .region [W1 116 (.mv (.t 11)), W1 117 (.mv (.t 13)), W1 118 (.eqb false (.t 116) (.t 117)), W1 119 (.mv (.t 118)), ⟨(some 120), .mv (.t 12), (some (119, true))⟩, ⟨(some 121), .mv (.t 14), (some (119, true))⟩, ⟨(some 122), .bin .eql (.t 120) (.t 121), (some (119, true))⟩, W1 123 (.pick (.t 119) (.t 122) (.c (.bool false))), W1 10 (.mv (.t 123))]

def k7_7 : ACode := .seq (.region [W1 106 (.mv (.t 7)), W1 107 (.fld 1 (.t 9)), W1 108 (.ld none (.t 107)), W1 109 (.fld 2 (.t 9)), W1 110 (.ld none (.t 109)), W1 111 (.fld 3 (.t 9)), W1 112 (.ld none (.t 111)), W1 113 (.call 30 [(.t 106), (.t 108), (.t 110), (.t 112)]), W1 105 (.mv (.t 113)), W1 114 (.ext (.t 105) 0), W1 115 (.ext (.t 105) 1), W1 13 (.mv (.t 114)), W1 14 (.mv (.t 115))]) k7_6

def k7_8 : ACode := .seq (.region [W1 95 (.mv (.t 5)), W1 96 (.fld 1 (.t 9)), W1 97 (.ld none (.t 96)), W1 98 (.fld 2 (.t 9)), W1 99 (.ld none (.t 98)), W1 100 (.fld 3 (.t 9)), W1 101 (.ld none (.t 100)), W1 102 (.call 15 [(.t 95), (.t 97), (.t 99), (.t 101)]), W1 94 (.mv (.t 102)), W1 103 (.ext (.t 94) 0), W1 104 (.ext (.t 94) 1), W1 11 (.mv (.t 103)), W1 12 (.mv (.t 104))]) k7_7

def k7_9 : ACode := .drawn [(1, W1 127 (.fld 1 (.t 9))), (2, W1 128 (.ld none (.t 127))), (5, W1 131 (.fld 1 (.t 9))), (6, W1 132 (.ld none (.t 131))), (0, W1 126 (.mv (.t 5))), (3, W1 129 (.call 18 [(.t 126), (.t 128)])), (4, W1 130 (.mv (.t 7))), (7, W1 133 (.call 31 [(.t 130), (.t 132)])), (8, W1 134 (.bin .eql (.t 129) (.t 133))), (9, W1 10 (.mv (.t 134)))] [[], [], [1], [0, 2], [], [], [5], [4, 6, 3], [3, 7], [8, 7, 0, 1, 2, 3, 4, 5, 6, 7, 8]] 0

def k7_10 : ACode := .region [W1 137 (.mv (.t 5)), W1 138 (.call 19 [(.t 137)]), W1 139 (.mv (.t 7)), W1 140 (.call 32 [(.t 139)]), W1 141 (.bin .eql (.t 138) (.t 140)), W1 10 (.mv (.t 141))]

def k7_11 : ACode := .drawn [(1, W1 145 (.fld 1 (.t 9))), (2, W1 146 (.ld none (.t 145))), (5, W1 149 (.fld 1 (.t 9))), (6, W1 150 (.ld none (.t 149))), (0, W1 144 (.mv (.t 5))), (3, W1 147 (.call 33 [(.t 144), (.t 146)])), (4, W1 148 (.mv (.t 7))), (7, W1 151 (.call 34 [(.t 148), (.t 150)])), (8, W1 152 (.bin .eql (.t 147) (.t 151))), (9, W1 10 (.mv (.t 152)))] [[], [], [1], [0, 2], [], [], [5], [4, 6, 3], [3, 7], [8, 7, 0, 1, 2, 3, 4, 5, 6, 7, 8]] 0

def k7_12 : ACode := .region [W1 159 (.mv (.t 7)), W1 160 (.fld 4 (.t 9)), W1 161 (.ld none (.t 160)), W1 162 (.call 35 [(.t 159), (.t 161)])]

def k7_13 : ACode := .seq (.region [W1 155 (.mv (.t 5)), W1 156 (.fld 4 (.t 9)), W1 157 (.ld none (.t 156)), W1 158 (.call 22 [(.t 155), (.t 157)])]) k7_12

def k7_14 : ACode := .region [W1 167 (.mv (.t 7)), W1 168 (.nck (.t 167)), W1 169 (.fld 1 (.t 168)), ⟨none, .st 1 (.t 169) (.c (.bool false)), none⟩]

def k7_15 : ACode := .region [W1 71 (.mv (.t 7)), W1 72 (.fld 1 (.t 9)), W1 73 (.ld none (.t 72)), W1 74 (.fld 4 (.t 9)), W1 75 (.ld none (.t 74)), W1 76 (.call 38 [(.t 71), (.t 73), (.t 75)])]

def k7_16 : ACode := .seq (.region [W1 65 (.mv (.t 5)), W1 66 (.fld 1 (.t 9)), W1 67 (.ld none (.t 66)), W1 68 (.fld 4 (.t 9)), W1 69 (.ld none (.t 68)), W1 70 (.call 37 [(.t 65), (.t 67), (.t 69)])]) k7_15

def k7_17 : ACode := .cond (.t 163) (.seq (.region [W1 165 (.mv (.t 5)), W1 166 (.call 36 [(.t 165)])]) k7_14) k7_16

def k7_18 : ACode := .cond (.t 153) k7_13 (.seq (.region [W1 164 (.bin .eql (.t 64) (.c (.int .i64 6))), W1 163 (.mv (.t 164))]) k7_17)

def k7_19 : ACode := .cond (.t 142) k7_11 (.seq (.region [W1 154 (.bin .eql (.t 64) (.c (.int .i64 5))), W1 153 (.mv (.t 154))]) k7_18)

def k7_20 : ACode := .cond (.t 135) k7_10 (.seq (.region [W1 143 (.bin .eql (.t 64) (.c (.int .i64 4))), W1 142 (.mv (.t 143))]) k7_19)

def k7_21 : ACode := .cond (.t 124) k7_9 (.seq (.region [W1 136 (.bin .eql (.t 64) (.c (.int .i64 3))), W1 135 (.mv (.t 136))]) k7_20)

def k7_22 : ACode := .cond (.t 92) k7_8 (.seq (.region [W1 125 (.bin .eql (.t 64) (.c (.int .i64 2))), W1 124 (.mv (.t 125))]) k7_21)

def k7_23 : ACode := .cond (.t 77) k7_5 (.seq (.region [W1 93 (.bin .eql (.t 64) (.c (.int .i64 1))), W1 92 (.mv (.t 93))]) k7_22)

def k7_24 : ACode := .block 2 ( .seq (.region [W1 78 (.bin .eql (.t 64) (.c (.int .i64 0))), W1 77 (.mv (.t 78))]) k7_23)

def k7_25 : ACode := .cond (.t 235) (.seq (.region [W1 4 (.mv (.c (.bool false)))]) (.ret)) (.skip)

def k7_26 : ACode := .seq (.drawn [(0, W1 184 (.mv (.t 10))), (1, W1 185 (.un .not (.t 184))), (2, W1 186 (.mv (.t 185))), (3, ⟨(some 187), .mv (.t 15), (some (186, false))⟩), (4, ⟨(some 188), .mv (.t 17), (some (186, false))⟩), (5, ⟨(some 189), .bin .neq (.t 187) (.t 188), (some (186, false))⟩), (6, W1 190 (.pick (.t 186) (.c (.bool true)) (.t 189))), (7, W1 191 (.mv (.t 190))), (8, ⟨(some 192), .mv (.t 16), (some (191, false))⟩), (9, ⟨(some 193), .mv (.t 18), (some (191, false))⟩), (10, ⟨(some 194), .bin .neq (.t 192) (.t 193), (some (191, false))⟩),
 (11, W1 195 (.pick (.t 191) (.c (.bool true)) (.t 194))), (12, W1 196 (.mv (.t 195))), (13, ⟨(some 197), .mv (.t 5), (some (196, false))⟩), (14, ⟨(some 198), .call 21 [(.t 197)], (some (196, false))⟩), (15, ⟨(some 199), .mv (.t 7), (some (196, false))⟩), (16, ⟨(some 200), .call 40 [(.t 199)], (some (196, false))⟩), (17, ⟨(some 201), .call 25 [(.t 198), (.t 200)], (some (196, false))⟩), (18, ⟨(some 202), .un .not (.t 201), (some (196, false))⟩), (19, W1 203 (.pick (.t 196) (.c (.bool true)) (.t 202))), (20, W1 204 (.mv (.t 203))), (21, ⟨(some 205), .mv (.t 5), (some (204, false))⟩),
 (22, ⟨(some 206), .call 20 [(.t 205)], (some (204, false))⟩), (23, ⟨(some 207), .mv (.t 7), (some (204, false))⟩), (24, ⟨(some 208), .call 42 [(.t 207)], (some (204, false))⟩), (25, ⟨(some 209), .call 41 [(.t 206), (.t 208)], (some (204, false))⟩), (26, ⟨(some 210), .un .not (.t 209), (some (204, false))⟩), (27, W1 211 (.pick (.t 204) (.c (.bool true)) (.t 210))), (28, W1 212 (.mv (.t 211))), (31, ⟨(some 215), .mv (.t 7), (some (212, false))⟩), (32, ⟨(some 216), .nck (.t 215), (some (212, false))⟩), (33, ⟨(some 217), .fld 2 (.t 216), (some (212, false))⟩),
 (34, ⟨(some 218), .ld none (.t 217), (some (212, false))⟩), (29, ⟨(some 213), .mv (.t 5), (some (212, false))⟩), (30, ⟨(some 214), .call 26 [(.t 213)], (some (212, false))⟩), (35, ⟨(some 219), .bin .neq (.t 214) (.t 218), (some (212, false))⟩), (36, W1 220 (.pick (.t 212) (.c (.bool true)) (.t 219))), (37, W1 221 (.mv (.t 220))), (40, ⟨(some 224), .mv (.t 7), (some (221, false))⟩), (41, ⟨(some 225), .nck (.t 224), (some (221, false))⟩), (42, ⟨(some 226), .fld 1 (.t 225), (some (221, false))⟩), (43, ⟨(some 227), .ld none (.t 226), (some (221, false))⟩),
 (38, ⟨(some 222), .mv (.t 5), (some (221, false))⟩), (39, ⟨(some 223), .call 27 [(.t 222)], (some (221, false))⟩), (44, ⟨(some 228), .eqb true (.t 223) (.t 227), (some (221, false))⟩), (45, W1 229 (.pick (.t 221) (.c (.bool true)) (.t 228))), (46, W1 230 (.mv (.t 229))), (47, ⟨(some 231), .mv (.t 5), (some (230, false))⟩), (48, ⟨(some 232), .call 24 [(.t 231)], (some (230, false))⟩), (49, ⟨(some 233), .mv (.t 0), (some (230, false))⟩), (50, ⟨(some 234), .bin .neq (.t 232) (.t 233), (some (230, false))⟩), (51, W1 235 (.pick (.t 230) (.c (.bool true)) (.t 234)))]
 [[], [0], [1], [2], [2], [3, 4, 2], [2, 5], [6, 2], [7], [7], [8, 9, 7], [7, 10], [11, 7], [12], [13, 12, 12], [12], [15, 14, 12], [14, 16, 16, 12], [17, 12], [12, 18], [19, 17], [20], [21, 20, 20], [20], [23, 22, 20], [22, 24, 24, 20], [25, 20], [20, 26], [27, 25], [28], [29, 28, 28], [28], [31, 28], [32, 28], [33, 28], [30, 34, 28], [28, 35], [36, 30], [37], [38, 37, 37], [37], [40, 37], [41, 37], [42, 37], [39, 43, 37], [37, 44], [45, 39], [46], [47, 46, 46], [46], [48, 49, 46], [46, 50]] 0) k7_25

def k7_27 : ACode := .seq (.region [W1 178 (.mv (.t 7)), W1 179 (.fld 1 (.t 9)), W1 180 (.ld none (.t 179)), W1 181 (.call 39 [(.t 178), (.t 180)]), W1 177 (.mv (.t 181)), W1 182 (.ext (.t 177) 0), W1 183 (.ext (.t 177) 1), W1 17 (.mv (.t 182)), W1 18 (.mv (.t 183))]) k7_26

def k7_28 : ACode := .seq (.region [W1 171 (.mv (.t 5)), W1 172 (.fld 1 (.t 9)), W1 173 (.ld none (.t 172)), W1 174 (.call 16 [(.t 171), (.t 173)]), W1 170 (.mv (.t 174)), W1 175 (.ext (.t 170) 0), W1 176 (.ext (.t 170) 1), W1 15 (.mv (.t 175)), W1 16 (.mv (.t 176))]) k7_27

def k7_29 : ACode := .seq (.seq (.region [W1 63 (.fld 0 (.t 9)), W1 64 (.ld none (.t 63))]) k7_24) k7_28

def k7_30 : ACode := .seq (.seq (.region [W1 59 (.fld 4 (.t 9)), W1 60 (.ld none (.t 59)), W1 61 (.len false (.t 60)), W1 62 (.bin .gtr (.t 61) (.c (.int .i64 40)))]) k7_4) (.seq (.region [W1 10 (.mv (.c (.bool true)))]) k7_29)

def k7_31 : ACode := .seq (.block 1 ( .seq (.region [W1 55 (.mv (.t 1)), W1 56 (.mv (.t 8)), W1 57 (.ixs 5 (.t 55) (.t 56)), W1 58 (.ld (some 5) (.t 57)), W1 9 (.new [.int .i64 0, .int .i64 0, .int .u64 0, .int .u64 0, .lit (.slice none 0 0)]), ⟨none, .st 5 (.t 9) (.t 58), none⟩]) k7_30)) (.region [W1 53 (.mv (.t 8)), W1 54 (.bin .add (.t 53) (.c (.int .i64 1))), W1 8 (.mv (.t 54))])

def b7_32 : ACode := .seq (.seq (.region [W1 49 (.mv (.t 8)), W1 50 (.mv (.t 1)), W1 51 (.len false (.t 50)), W1 52 (.bin .lss (.t 49) (.t 51))]) (.cond (.t 52) (.skip) (.exit 0))) k7_31

def k7_33 : ACode := .seq (.seq (.region [W1 8 (.mv (.c (.int .i64 0)))]) (.block 0 ( .loop b7_32))) (.seq (.region [W1 4 (.mv (.c (.bool true)))]) (.ret))

def k7_34 : ACode := .seq (.seq (.region [W1 43 (.mv (.t 6)), W1 44 (.bin .neq (.t 43) (.c (.int .i64 0))), W1 45 (.mv (.t 44)), ⟨(some 46), .mv (.t 5), (some (45, false))⟩, ⟨(some 47), .isNil false 0 (.t 46), (some (45, false))⟩, W1 48 (.pick (.t 45) (.c (.bool true)) (.t 47))]) k7_3) k7_33

def k7_35 : ACode := .seq (.seq (.region [W1 35 (.mv (.t 7)), W1 36 (.isNil false 0 (.t 35))]) (.cond (.t 36) k7_2 (.skip))) k7_34

def k7_36 : ACode := .seq (.region [W1 33 (.mv (.t 0)), W1 34 (.call 28 [(.t 33)]), W1 7 (.mv (.t 34))]) k7_35

def k7_37 : ACode := .seq (.region [W1 29 (.mv (.t 0)), W1 30 (.call 14 [(.t 29)]), W1 28 (.mv (.t 30)), W1 31 (.ext (.t 28) 0), W1 32 (.ext (.t 28) 1), W1 5 (.mv (.t 31)), W1 6 (.mv (.t 32))]) k7_36

def k7_38 : ACode := .seq (.seq (.region [W1 21 (.mv (.t 0)), W1 22 (.bin .gtr (.t 21) (.c (.int .i64 20))), W1 23 (.mv (.t 22)), ⟨(some 24), .mv (.t 1), (some (23, false))⟩, ⟨(some 25), .len false (.t 24), (some (23, false))⟩, ⟨(some 26), .bin .gtr (.t 25) (.c (.int .i64 80)), (some (23, false))⟩, W1 27 (.pick (.t 23) (.c (.bool true)) (.t 26))]) k7_1) k7_37

def k7_39 : ACode := .seq (.seq (.region [W1 19 (.call 13 []), W1 20 (.un .not (.t 19))]) k7_0) k7_38

def c7 : ACode := .seq (.region [W1 4 (.mv (.c (.bool false)))]) k7_39
theorem ok7 : fnOk Try.prog 7 c7 236 [.t 4] = true := by kernel_rfl

def k13_0 : ACode := .cond (.t 19) (.seq (.region [W1 0 (.mv (.c (.bool false)))]) (.ret)) (.skip)

def k13_1 : ACode := .seq (.region [W1 40 (.mv (.t 3)), W1 41 (.bin .eql (.t 40) (.c (.int .i64 0))), W1 42 (.mv (.t 41)), ⟨(some 43), .mv (.t 4), (some (42, true))⟩, ⟨(some 44), .bin .eql (.t 43) (.c (.int .i64 0)), (some (42, true))⟩, W1 45 (.pick (.t 42) (.t 44) (.c (.bool false))), W1 46 (.mv (.t 45)), ⟨(some 47), .mv (.t 5), (some (46, true))⟩, ⟨(some 48), .bin .eql (.t 47) (.c (.int .i64 0)), (some (46, true))⟩, W1 49 (.pick (.t 46) (.t 48) (.c (.bool false))), W1 50 (.mv (.t 49)), ⟨(some 51), .mv (.t 7), (some (50, true))⟩,
 ⟨(some 52), .bin .eql (.t 51) (.c (.int .i64 12)), (some (50, true))⟩, W1 53 (.pick (.t 50) (.t 52) (.c (.bool false))), W1 54 (.mv (.t 53)), ⟨(some 55), .mv (.t 9), (some (54, true))⟩, ⟨(some 56), .bin .eql (.t 55) (.c (.int .i64 0)), (some (54, true))⟩, W1 57 (.pick (.t 54) (.t 56) (.c (.bool false))), W1 58 (.mv (.t 57)), ⟨(some 59), .mv (.t 8), (some (58, true))⟩, ⟨(some 60), .bin .eql (.t 59) (.c (.int .u64 7)), (some (58, true))⟩, W1 61 (.pick (.t 58) (.t 60) (.c (.bool false))), W1 62 (.mv (.t 61)), ⟨(some 63), .mv (.t 1), (some (62, true))⟩,
 ⟨(some 64), .call 26 [(.t 63)], (some (62, true))⟩, ⟨(some 65), .bin .eql (.t 64) (.c (.int .i64 3)), (some (62, true))⟩, W1 66 (.pick (.t 62) (.t 65) (.c (.bool false))), W1 0 (.mv (.t 66))]) (.ret)

def k13_2 : ACode := .seq (.region [W1 36 (.mv (.t 1)), W1 37 (.call 16 [(.t 36), (.c (.int .i64 9))]), W1 35 (.mv (.t 37)), W1 38 (.ext (.t 35) 0), W1 39 (.ext (.t 35) 1), W1 8 (.mv (.t 38)), W1 9 (.mv (.t 39))]) k13_1

def k13_3 : ACode := .seq (.region [W1 29 (.mv (.t 1)), W1 30 (.call 16 [(.t 29), (.c (.int .i64 9))]), W1 28 (.mv (.t 30)), W1 31 (.ext (.t 28) 0), W1 32 (.ext (.t 28) 1), W1 6 (.mv (.t 31)), W1 7 (.mv (.t 32))]) (.seq (.region [W1 33 (.mv (.t 1)), W1 34 (.call 36 [(.t 33)])]) k13_2)

def k13_4 : ACode := .seq (.region [W1 20 (.mv (.t 1)), W1 21 (.call 17 [(.t 20), (.c (.int .i64 9)), (.c (.int .u64 7))]), W1 22 (.mv (.t 1)), W1 23 (.call 18 [(.t 22), (.c (.int .i64 1))]), W1 24 (.mv (.t 1)), W1 25 (.call 19 [(.t 24)]), W1 3 (.mv (.t 21)), W1 4 (.mv (.t 23)), W1 5 (.mv (.t 25))]) (.seq (.region [W1 26 (.mv (.t 1)), W1 27 (.call 22 [(.t 26), (.c (.lit (.slice none 0 0)))])]) k13_3)

def k13_5 : ACode := .seq (.seq (.region [W1 14 (.mv (.t 2)), W1 15 (.bin .neq (.t 14) (.c (.int .i64 0))), W1 16 (.mv (.t 15)), ⟨(some 17), .mv (.t 1), (some (16, false))⟩, ⟨(some 18), .isNil false 0 (.t 17), (some (16, false))⟩, W1 19 (.pick (.t 16) (.c (.bool true)) (.t 18))]) k13_0) k13_4

def k13_6 : ACode := .seq (.region [W1 11 (.call 14 [(.c (.int .i64 2))]), W1 10 (.mv (.t 11)), W1 12 (.ext (.t 10) 0), W1 13 (.ext (.t 10) 1), W1 1 (.mv (.t 12)), W1 2 (.mv (.t 13))]) k13_5

def c13 : ACode := .seq (.region [W1 0 (.mv (.c (.bool false)))]) k13_6
theorem ok13 : fnOk Try.prog 13 c13 67 [.t 0] = true := by kernel_rfl

def k25_0 : ACode := .cond (.t 10) (.seq (.region [W1 4 (.mv (.c (.bool false)))]) (.ret)) (.skip)

def k25_1 : ACode := .cond (.t 25) (.seq (.region [W1 4 (.mv (.c (.bool false)))]) (.ret)) (.skip)

def k25_2 : ACode := .seq (.block 1 ( .seq (.drawn [(0, W1 17 (.mv (.t 0))), (1, W1 18 (.mv (.t 5))), (2, W1 19 (.ixs 1 (.t 17) (.t 18))), (3, W1 20 (.ld none (.t 19))), (4, W1 21 (.mv (.t 1))), (5, W1 22 (.mv (.t 5))), (6, W1 23 (.ixs 1 (.t 21) (.t 22))), (7, W1 24 (.ld none (.t 23))), (8, W1 25 (.bin .neq (.t 20) (.t 24)))] [[], [], [0, 1], [2], [], [], [4, 5], [6], [3, 7]] 0) k25_1)) (.region [W1 15 (.mv (.t 5)), W1 16 (.bin .add (.t 15) (.c (.int .i64 1))), W1 5 (.mv (.t 16))])

def b25_3 : ACode := .seq (.seq (.region [W1 11 (.mv (.t 5)), W1 12 (.mv (.t 0)), W1 13 (.len false (.t 12)), W1 14 (.bin .lss (.t 11) (.t 13))]) (.cond (.t 14) (.skip) (.exit 0))) k25_2

def k25_4 : ACode := .seq (.seq (.region [W1 5 (.mv (.c (.int .i64 0)))]) (.block 0 ( .loop b25_3))) (.seq (.region [W1 4 (.mv (.c (.bool true)))]) (.ret))

def k25_5 : ACode := .seq (.seq (.region [W1 6 (.mv (.t 0)), W1 7 (.len false (.t 6)), W1 8 (.mv (.t 1)), W1 9 (.len false (.t 8)), W1 10 (.bin .neq (.t 7) (.t 9))]) k25_0) k25_4

def c25 : ACode := .seq (.region [W1 4 (.mv (.c (.bool false)))]) k25_5
theorem ok25 : fnOk Try.prog 25 c25 26 [.t 4] = true := by kernel_rfl

def k41_0 : ACode := .cond (.t 10) (.seq (.region [W1 4 (.mv (.c (.bool false)))]) (.ret)) (.skip)

def k41_1 : ACode := .cond (.t 25) (.seq (.region [W1 4 (.mv (.c (.bool false)))]) (.ret)) (.skip)

def k41_2 : ACode := .seq (.block 1 ( .seq (.drawn [(0, W1 17 (.mv (.t 0))), (1, W1 18 (.mv (.t 5))), (2, W1 19 (.ixs 1 (.t 17) (.t 18))), (3, W1 20 (.ld none (.t 19))), (4, W1 21 (.mv (.t 1))), (5, W1 22 (.mv (.t 5))), (6, W1 23 (.ixs 1 (.t 21) (.t 22))), (7, W1 24 (.ld none (.t 23))), (8, W1 25 (.bin .neq (.t 20) (.t 24)))] [[], [], [0, 1], [2], [], [], [4, 5], [6], [3, 7]] 0) k41_1)) (.region [W1 15 (.mv (.t 5)), W1 16 (.bin .add (.t 15) (.c (.int .i64 1))), W1 5 (.mv (.t 16))])

def b41_3 : ACode := .seq (.seq (.region [W1 11 (.mv (.t 5)), W1 12 (.mv (.t 0)), W1 13 (.len false (.t 12)), W1 14 (.bin .lss (.t 11) (.t 13))]) (.cond (.t 14) (.skip) (.exit 0))) k41_2

def k41_4 : ACode := .seq (.seq (.region [W1 5 (.mv (.c (.int .i64 0)))]) (.block 0 ( .loop b41_3))) (.seq (.region [W1 4 (.mv (.c (.bool true)))]) (.ret))

def k41_5 : ACode := .seq (.seq (.region [W1 6 (.mv (.t 0)), W1 7 (.len false (.t 6)), W1 8 (.mv (.t 1)), W1 9 (.len false (.t 8)), W1 10 (.bin .neq (.t 7) (.t 9))]) k41_0) k41_4

def c41 : ACode := .seq (.region [W1 4 (.mv (.c (.bool false)))]) k41_5
theorem ok41 : fnOk Try.prog 41 c41 26 [.t 4] = true := by kernel_rfl

end Go.Proofs.Ytfahkkefcdeohaa.Ax

/- The code of functions of the program, for our abstract machine; each is tied to the program by a closed test. Written by gen.py. Conditions: none. -/
namespace Go.Proofs.Ytfahkkefcdeohaa.Ax
open Go Go.Ax
set_option maxRecDepth 100000

def k28_0 : ACode := .cond (.t 8) (.seq (.region [W1 2 (.mv (.c (.lit (.pointer none))))]) (.ret)) (.skip)

def k28_1 : ACode := .seq (.region [W1 9 (.mv (.t 0)), W1 10 (.mks 18 136 [.int .u64 0, .int .u64 0, .int .u64 0, .int .u64 0, .int .u64 0, .int .u64 0, .int .u64 0, .int .u64 0, .int .u64 0, .int .u64 0, .int .u64 0, .int .u64 0, .int .u64 0, .int .u64 0, .int .u64 0, .int .u64 0, .bool false, .bool false] (.t 9) (.t 9)), W1 11 (.build [.lit (.slice none 0 0), .bool false, .int .i64 0, .int .i64 0, .lit (.slice none 0 0)] [(0, 1, (.t 10))]), W1 12 (.box (.t 11)), W1 2 (.mv (.t 12))]) (.ret)

def k28_2 : ACode := .seq (.seq (.region [W1 3 (.mv (.t 0)), W1 4 (.bin .lss (.t 3) (.c (.int .i64 1))), W1 5 (.mv (.t 4)), ⟨(some 6), .mv (.t 0), (some (5, false))⟩, ⟨(some 7), .bin .gtr (.t 6) (.c (.int .i64 4096)), (some (5, false))⟩, W1 8 (.pick (.t 5) (.c (.bool true)) (.t 7))]) k28_0) k28_1

def c28 : ACode := .seq (.region [W1 2 (.mv (.c (.lit (.pointer none))))]) k28_2
theorem ok28 : fnOk Try.prog 28 c28 13 [.t 2] = true := by kernel_rfl

def k29_0 : ACode := .cond (.t 18) (.seq (.region [W1 19 (.mv (.t 7)), W1 6 (.mv (.t 19))]) (.ret)) (.skip)

def k29_1 : ACode := .cond (.t 22) (.seq (.region [W1 6 (.mv (.c (.int .i64 12)))]) (.ret)) (.skip)

def k29_2 : ACode := .seq (.region [W1 23 (.mv (.t 0)), W1 24 (.nck (.t 23)), W1 25 (.fld 0 (.t 24)), W1 26 (.ld none (.t 25)), W1 27 (.mv (.t 1)), W1 28 (.bin .quo (.t 27) (.c (.int .i64 8))), W1 29 (.ixs 18 (.t 26) (.t 28)), W1 30 (.mv (.t 1)), W1 31 (.bin .rem (.t 30) (.c (.int .i64 8))), W1 32 (.mv (.t 2)), W1 33 (.call 51 [(.t 29), (.t 31), (.t 32)])]) (.seq (.region [W1 6 (.mv (.c (.int .i64 0)))]) (.ret))

def k29_3 : ACode := .seq (.seq (.region [W1 20 (.mv (.t 0)), W1 21 (.call 50 [(.t 20)]), W1 22 (.un .not (.t 21))]) k29_1) k29_2

def k29_4 : ACode := .seq (.seq (.region [W1 17 (.mv (.t 7)), W1 18 (.bin .neq (.t 17) (.c (.int .i64 0)))]) k29_0) k29_3

def k29_5 : ACode := .seq (.region [W1 8 (.mv (.t 0)), W1 9 (.mv (.t 1)), W1 10 (.mv (.t 0)), W1 11 (.nck (.t 10)), W1 12 (.fld 0 (.t 11)), W1 13 (.ld none (.t 12)), W1 14 (.len false (.t 13)), W1 15 (.bin .mul (.c (.int .i64 8)) (.t 14)), W1 16 (.call 49 [(.t 8), (.t 9), (.t 15)]), W1 7 (.mv (.t 16))]) k29_4

def c29 : ACode := .seq (.region [W1 6 (.mv (.c (.int .i64 0)))]) k29_5
theorem ok29 : fnOk Try.prog 29 c29 34 [.t 6] = true := by kernel_rfl

def k30_0 : ACode := .seq (.region [W1 25 (.mv (.t 11)), W1 8 (.mv (.c (.bool false))), W1 9 (.mv (.t 25))]) (.ret)

def k30_1 : ACode := .seq (.region [W1 30 (.mv (.t 11)), W1 31 (.bin .eql (.t 30) (.c (.int .i64 0))), W1 32 (.mv (.t 11)), W1 8 (.mv (.t 31)), W1 9 (.mv (.t 32))]) (.ret)

def k30_2 : ACode := .seq (.region [W1 26 (.mv (.t 0)), W1 27 (.mv (.t 1)), W1 28 (.mv (.t 3)), W1 29 (.call 29 [(.t 26), (.t 27), (.t 28)]), W1 11 (.mv (.t 29))]) k30_1

def k30_3 : ACode := .seq (.seq (.region [W1 18 (.mv (.t 11)), W1 19 (.bin .neq (.t 18) (.c (.int .i64 0))), W1 20 (.mv (.t 19)), ⟨(some 21), .mv (.t 10), (some (20, false))⟩, ⟨(some 22), .mv (.t 2), (some (20, false))⟩, ⟨(some 23), .bin .neq (.t 21) (.t 22), (some (20, false))⟩, W1 24 (.pick (.t 20) (.c (.bool true)) (.t 23))]) (.cond (.t 24) k30_0 (.skip))) k30_2

def k30_4 : ACode := .seq (.region [W1 13 (.mv (.t 0)), W1 14 (.mv (.t 1)), W1 15 (.call 39 [(.t 13), (.t 14)]), W1 12 (.mv (.t 15)), W1 16 (.ext (.t 12) 0), W1 17 (.ext (.t 12) 1), W1 10 (.mv (.t 16)), W1 11 (.mv (.t 17))]) k30_3

def c30 : ACode := .seq (.region [W1 8 (.mv (.c (.bool false))), W1 9 (.mv (.c (.int .i64 0)))]) k30_4
theorem ok30 : fnOk Try.prog 30 c30 33 [.t 8, .t 9] = true := by kernel_rfl

def k31_0 : ACode := .cond (.t 15) (.seq (.region [W1 16 (.mv (.t 5)), W1 4 (.mv (.t 16))]) (.ret)) (.skip)

def k31_1 : ACode := .cond (.t 19) (.seq (.region [W1 4 (.mv (.c (.int .i64 12)))]) (.ret)) (.skip)

def k31_2 : ACode := .seq (.region [W1 20 (.mv (.t 0)), W1 21 (.nck (.t 20)), W1 22 (.fld 0 (.t 21)), W1 23 (.ld none (.t 22)), W1 24 (.mv (.t 1)), W1 25 (.ixs 18 (.t 23) (.t 24)), W1 26 (.call 52 [(.t 25)])]) (.seq (.region [W1 4 (.mv (.c (.int .i64 0)))]) (.ret))

def k31_3 : ACode := .seq (.seq (.region [W1 17 (.mv (.t 0)), W1 18 (.call 50 [(.t 17)]), W1 19 (.un .not (.t 18))]) k31_1) k31_2

def k31_4 : ACode := .seq (.seq (.region [W1 14 (.mv (.t 5)), W1 15 (.bin .neq (.t 14) (.c (.int .i64 0)))]) k31_0) k31_3

def k31_5 : ACode := .seq (.region [W1 6 (.mv (.t 0)), W1 7 (.mv (.t 1)), W1 8 (.mv (.t 0)), W1 9 (.nck (.t 8)), W1 10 (.fld 0 (.t 9)), W1 11 (.ld none (.t 10)), W1 12 (.len false (.t 11)), W1 13 (.call 49 [(.t 6), (.t 7), (.t 12)]), W1 5 (.mv (.t 13))]) k31_4

def c31 : ACode := .seq (.region [W1 4 (.mv (.c (.int .i64 0)))]) k31_5
theorem ok31 : fnOk Try.prog 31 c31 27 [.t 4] = true := by kernel_rfl

def k32_0 : ACode := .cond (.t 12) (.seq (.region [W1 2 (.mv (.c (.int .i64 12)))]) (.ret)) (.skip)

def k32_1 : ACode := .seq (.block 1 ( .region [W1 22 (.mv (.t 0)), W1 23 (.nck (.t 22)), W1 24 (.fld 0 (.t 23)), W1 25 (.ld none (.t 24)), W1 26 (.mv (.t 3)), W1 27 (.ixs 18 (.t 25) (.t 26)), W1 28 (.call 53 [(.t 27)])])) (.region [W1 20 (.mv (.t 3)), W1 21 (.bin .add (.t 20) (.c (.int .i64 1))), W1 3 (.mv (.t 21))])

def b32_2 : ACode := .seq (.seq (.region [W1 13 (.mv (.t 3)), W1 14 (.mv (.t 0)), W1 15 (.nck (.t 14)), W1 16 (.fld 0 (.t 15)), W1 17 (.ld none (.t 16)), W1 18 (.len false (.t 17)), W1 19 (.bin .lss (.t 13) (.t 18))]) (.cond (.t 19) (.skip) (.exit 0))) k32_1

def k32_3 : ACode := .seq (.seq (.region [W1 3 (.mv (.c (.int .i64 0)))]) (.block 0 ( .loop b32_2))) (.seq (.region [W1 2 (.mv (.c (.int .i64 0)))]) (.ret))

def k32_4 : ACode := .seq (.seq (.region [W1 4 (.mv (.t 0)), W1 5 (.nck (.t 4)), W1 6 (.fld 1 (.t 5)), W1 7 (.ld none (.t 6)), W1 8 (.mv (.t 7)), ⟨(some 9), .mv (.t 0), (some (8, false))⟩, ⟨(some 10), .call 50 [(.t 9)], (some (8, false))⟩, ⟨(some 11), .un .not (.t 10), (some (8, false))⟩, W1 12 (.pick (.t 8) (.c (.bool true)) (.t 11))]) k32_0) k32_3

def c32 : ACode := .seq (.region [W1 2 (.mv (.c (.int .i64 0)))]) k32_4
theorem ok32 : fnOk Try.prog 32 c32 29 [.t 2] = true := by kernel_rfl

def k34_0 : ACode := .cond (.t 15) (.seq (.region [W1 16 (.mv (.t 5)), W1 4 (.mv (.t 16))]) (.ret)) (.skip)

def k34_1 : ACode := .seq (.region [W1 17 (.mv (.t 0)), W1 18 (.nck (.t 17)), W1 19 (.fld 0 (.t 18)), W1 20 (.ld none (.t 19)), W1 21 (.mv (.t 1)), W1 22 (.ixs 18 (.t 20) (.t 21)), W1 23 (.call 54 [(.t 22)])]) (.seq (.region [W1 4 (.mv (.c (.int .i64 0)))]) (.ret))

def k34_2 : ACode := .seq (.seq (.region [W1 14 (.mv (.t 5)), W1 15 (.bin .neq (.t 14) (.c (.int .i64 0)))]) k34_0) k34_1

def k34_3 : ACode := .seq (.region [W1 6 (.mv (.t 0)), W1 7 (.mv (.t 1)), W1 8 (.mv (.t 0)), W1 9 (.nck (.t 8)), W1 10 (.fld 0 (.t 9)), W1 11 (.ld none (.t 10)), W1 12 (.len false (.t 11)), W1 13 (.call 49 [(.t 6), (.t 7), (.t 12)]), W1 5 (.mv (.t 13))]) k34_2

def c34 : ACode := .seq (.region [W1 4 (.mv (.c (.int .i64 0)))]) k34_3
theorem ok34 : fnOk Try.prog 34 c34 24 [.t 4] = true := by kernel_rfl

def k35_0 : ACode := .seq (.block 3 ( .region [W1 26 (.mv (.t 5)), W1 27 (.mv (.t 26)), ⟨(some 28), .mv (.t 1), (some (27, false))⟩, ⟨(some 29), .mv (.t 6), (some (27, false))⟩, ⟨(some 30), .ixs 1 (.t 28) (.t 29), (some (27, false))⟩, ⟨(some 31), .ld none (.t 30), (some (27, false))⟩, ⟨(some 32), .mv (.t 4), (some (27, false))⟩, ⟨(some 33), .bin .eql (.t 31) (.t 32), (some (27, false))⟩, W1 34 (.pick (.t 27) (.c (.bool true)) (.t 33)), W1 5 (.mv (.t 34))])) (.region [W1 24 (.mv (.t 6)), W1 25 (.bin .add (.t 24) (.c (.int .i64 1))), W1 6 (.mv (.t 25))])

def b35_1 : ACode := .seq (.seq (.region [W1 20 (.mv (.t 6)), W1 21 (.mv (.t 1)), W1 22 (.len false (.t 21)), W1 23 (.bin .lss (.t 20) (.t 22))]) (.cond (.t 23) (.skip) (.exit 2))) k35_0

def k35_2 : ACode := .region [W1 35 (.mv (.t 0)), W1 36 (.nck (.t 35)), W1 37 (.fld 0 (.t 36)), W1 38 (.ld none (.t 37)), W1 39 (.mv (.t 4)), W1 40 (.ixs 18 (.t 38) (.t 39)), W1 41 (.mv (.t 5)), W1 42 (.call 55 [(.t 40), (.t 41)])]

def k35_3 : ACode := .seq (.seq (.region [W1 6 (.mv (.c (.int .i64 0)))]) (.block 2 ( .loop b35_1))) k35_2

def k35_4 : ACode := .seq (.block 1 ( .seq (.region [W1 5 (.mv (.c (.bool false)))]) k35_3)) (.region [W1 18 (.mv (.t 4)), W1 19 (.bin .add (.t 18) (.c (.int .i64 1))), W1 4 (.mv (.t 19))])

def b35_5 : ACode := .seq (.seq (.region [W1 11 (.mv (.t 4)), W1 12 (.mv (.t 0)), W1 13 (.nck (.t 12)), W1 14 (.fld 0 (.t 13)), W1 15 (.ld none (.t 14)), W1 16 (.len false (.t 15)), W1 17 (.bin .lss (.t 11) (.t 16))]) (.cond (.t 17) (.skip) (.exit 0))) k35_4

def k35_6 : ACode := .region [W1 43 (.mv (.t 0)), W1 44 (.mv (.t 0)), W1 45 (.nck (.t 43)), W1 46 (.fld 1 (.t 45)), ⟨none, .st 1 (.t 46) (.c (.bool true)), none⟩, W1 47 (.nck (.t 44)), W1 48 (.fld 3 (.t 47)), ⟨none, .st 1 (.t 48) (.c (.int .i64 0)), none⟩]

def k35_7 : ACode := .seq (.seq (.region [W1 4 (.mv (.c (.int .i64 0)))]) (.block 0 ( .loop b35_5))) k35_6

def c35 : ACode := .seq (.seq (.region [W1 7 (.mv (.t 0)), W1 8 (.nck (.t 7)), W1 9 (.fld 1 (.t 8)), W1 10 (.ld none (.t 9))]) (.cond (.t 10) (.ret) (.skip))) k35_7
theorem ok35 : fnOk Try.prog 35 c35 49 [] = true := by kernel_rfl

def k38_0 : ACode := .region [W1 11 (.mv (.t 0)), W1 12 (.mv (.t 0)), W1 13 (.mv (.t 1)), W1 14 (.bsl 1 0 [.int .i64 0] []), W1 15 (.mv (.t 2)), W1 16 (.app 1 8 (.t 14) (.t 15)), W1 17 (.nck (.t 11)), W1 18 (.fld 3 (.t 17)), ⟨none, .st 1 (.t 18) (.t 13), none⟩, W1 19 (.nck (.t 12)), W1 20 (.fld 4 (.t 19)), ⟨none, .st 1 (.t 20) (.t 16), none⟩]

def c38 : ACode := .seq (.region [W1 6 (.mv (.t 0)), W1 7 (.nck (.t 6)), W1 8 (.fld 1 (.t 7)), W1 9 (.ld none (.t 8)), W1 10 (.un .not (.t 9))]) (.cond (.t 10) k38_0 (.skip))
theorem ok38 : fnOk Try.prog 38 c38 21 [] = true := by kernel_rfl

def k39_0 : ACode := .seq (.region [W1 18 (.mv (.t 6)), W1 4 (.mv (.c (.int .u64 0))), W1 5 (.mv (.t 18))]) (.ret)

def k39_1 : ACode := .seq (.region [W1 19 (.mv (.t 0)), W1 20 (.nck (.t 19)), W1 21 (.fld 0 (.t 20)), W1 22 (.ld none (.t 21)), W1 23 (.mv (.t 1)), W1 24 (.bin .quo (.t 23) (.c (.int .i64 8))), W1 25 (.mv (.t 1)), W1 26 (.bin .rem (.t 25) (.c (.int .i64 8))), W1 27 (.ixs 18 (.t 22) (.t 24)), W1 28 (.fld 8 (.t 27)), W1 29 (.ixa 8 1 (.t 28) (.t 26)), W1 30 (.ld none (.t 29)), W1 4 (.mv (.t 30)), W1 5 (.mv (.c (.int .i64 0)))]) (.ret)

def k39_2 : ACode := .seq (.seq (.region [W1 16 (.mv (.t 6)), W1 17 (.bin .neq (.t 16) (.c (.int .i64 0)))]) (.cond (.t 17) k39_0 (.skip))) k39_1

def k39_3 : ACode := .seq (.region [W1 7 (.mv (.t 0)), W1 8 (.mv (.t 1)), W1 9 (.mv (.t 0)), W1 10 (.nck (.t 9)), W1 11 (.fld 0 (.t 10)), W1 12 (.ld none (.t 11)), W1 13 (.len false (.t 12)), W1 14 (.bin .mul (.c (.int .i64 8)) (.t 13)), W1 15 (.call 49 [(.t 7), (.t 8), (.t 14)]), W1 6 (.mv (.t 15))]) k39_2

def c39 : ACode := .seq (.region [W1 4 (.mv (.c (.int .u64 0))), W1 5 (.mv (.c (.int .i64 0)))]) k39_3
theorem ok39 : fnOk Try.prog 39 c39 31 [.t 4, .t 5] = true := by kernel_rfl

def k40_0 : ACode := .seq (.block 3 ( .region [W1 19 (.mv (.t 3)), W1 20 (.mv (.t 0)), W1 21 (.nck (.t 20)), W1 22 (.fld 0 (.t 21)), W1 23 (.ld none (.t 22)), W1 24 (.mv (.t 4)), W1 25 (.mv (.t 5)), W1 26 (.ixs 18 (.t 23) (.t 24)), W1 27 (.fld 8 (.t 26)), W1 28 (.ixa 8 1 (.t 27) (.t 25)), W1 29 (.ld none (.t 28)), W1 30 (.bsl 1 1 [.int .u64 0] [(0, (.t 29))]), W1 31 (.app 1 8 (.t 19) (.t 30)), W1 3 (.mv (.t 31))])) (.region [W1 17 (.mv (.t 5)), W1 18 (.bin .add (.t 17) (.c (.int .i64 1))), W1 5 (.mv (.t 18))])

def b40_1 : ACode := .seq (.seq (.region [W1 15 (.mv (.t 5)), W1 16 (.bin .lss (.t 15) (.c (.int .i64 8)))]) (.cond (.t 16) (.skip) (.exit 2))) k40_0

def k40_2 : ACode := .seq (.block 1 ( .seq (.region [W1 5 (.mv (.c (.int .i64 0)))]) (.block 2 ( .loop b40_1)))) (.region [W1 13 (.mv (.t 4)), W1 14 (.bin .add (.t 13) (.c (.int .i64 1))), W1 4 (.mv (.t 14))])

def b40_3 : ACode := .seq (.seq (.region [W1 6 (.mv (.t 4)), W1 7 (.mv (.t 0)), W1 8 (.nck (.t 7)), W1 9 (.fld 0 (.t 8)), W1 10 (.ld none (.t 9)), W1 11 (.len false (.t 10)), W1 12 (.bin .lss (.t 6) (.t 11))]) (.cond (.t 12) (.skip) (.exit 0))) k40_2

def k40_4 : ACode := .seq (.seq (.region [W1 4 (.mv (.c (.int .i64 0)))]) (.block 0 ( .loop b40_3))) (.seq (.region [W1 32 (.mv (.t 3)), W1 2 (.mv (.t 32))]) (.ret))

def c40 : ACode := .seq (.region [W1 2 (.mv (.c (.lit (.slice none 0 0))))]) (.seq (.region [W1 3 (.mv (.c (.lit (.slice none 0 0))))]) k40_4)
theorem ok40 : fnOk Try.prog 40 c40 33 [.t 2] = true := by kernel_rfl

def k42_0 : ACode := .region [W1 22 (.mv (.t 3)), W1 23 (.mv (.t 4)), W1 24 (.bsl 1 1 [.int .i64 0] [(0, (.t 23))]), W1 25 (.app 1 8 (.t 22) (.t 24)), W1 3 (.mv (.t 25))]

def k42_1 : ACode := .seq (.block 1 ( .seq (.region [W1 14 (.mv (.t 0)), W1 15 (.nck (.t 14)), W1 16 (.fld 0 (.t 15)), W1 17 (.ld none (.t 16)), W1 18 (.mv (.t 4)), W1 19 (.ixs 18 (.t 17) (.t 18)), W1 20 (.fld 16 (.t 19)), W1 21 (.ld none (.t 20))]) (.cond (.t 21) k42_0 (.skip)))) (.region [W1 12 (.mv (.t 4)), W1 13 (.bin .add (.t 12) (.c (.int .i64 1))), W1 4 (.mv (.t 13))])

def b42_2 : ACode := .seq (.seq (.region [W1 5 (.mv (.t 4)), W1 6 (.mv (.t 0)), W1 7 (.nck (.t 6)), W1 8 (.fld 0 (.t 7)), W1 9 (.ld none (.t 8)), W1 10 (.len false (.t 9)), W1 11 (.bin .lss (.t 5) (.t 10))]) (.cond (.t 11) (.skip) (.exit 0))) k42_1

def k42_3 : ACode := .seq (.seq (.region [W1 4 (.mv (.c (.int .i64 0)))]) (.block 0 ( .loop b42_2))) (.seq (.region [W1 26 (.mv (.t 3)), W1 2 (.mv (.t 26))]) (.ret))

def c42 : ACode := .seq (.region [W1 2 (.mv (.c (.lit (.slice none 0 0))))]) (.seq (.region [W1 3 (.mv (.c (.lit (.slice none 0 0))))]) k42_3)
theorem ok42 : fnOk Try.prog 42 c42 27 [.t 2] = true := by kernel_rfl

def k49_0 : ACode := .cond (.t 10) (.seq (.region [W1 6 (.mv (.c (.int .i64 12)))]) (.ret)) (.skip)

def k49_1 : ACode := .cond (.t 17) (.seq (.region [W1 6 (.mv (.c (.int .i64 1)))]) (.ret)) (.skip)

def k49_2 : ACode := .seq (.seq (.region [W1 11 (.mv (.t 1)), W1 12 (.bin .lss (.t 11) (.c (.int .i64 0))), W1 13 (.mv (.t 12)), ⟨(some 14), .mv (.t 1), (some (13, false))⟩, ⟨(some 15), .mv (.t 2), (some (13, false))⟩, ⟨(some 16), .bin .geq (.t 14) (.t 15), (some (13, false))⟩, W1 17 (.pick (.t 13) (.c (.bool true)) (.t 16))]) k49_1) (.seq (.region [W1 6 (.mv (.c (.int .i64 0)))]) (.ret))

def k49_3 : ACode := .seq (.seq (.region [W1 7 (.mv (.t 0)), W1 8 (.nck (.t 7)), W1 9 (.fld 1 (.t 8)), W1 10 (.ld none (.t 9))]) k49_0) k49_2

def c49 : ACode := .seq (.region [W1 6 (.mv (.c (.int .i64 0)))]) k49_3
theorem ok49 : fnOk Try.prog 49 c49 18 [.t 6] = true := by kernel_rfl

def k50_0 : ACode := .seq (.region [W1 20 (.mv (.t 0)), W1 21 (.mv (.t 0)), W1 22 (.nck (.t 21)), W1 23 (.fld 4 (.t 22)), W1 24 (.ld none (.t 23)), W1 25 (.call 35 [(.t 20), (.t 24)])]) (.seq (.region [W1 2 (.mv (.c (.bool false)))]) (.ret))

def k50_1 : ACode := .seq (.region [W1 15 (.mv (.t 0)), W1 16 (.nck (.t 15)), W1 17 (.fld 3 (.t 16)), W1 18 (.ld none (.t 17)), W1 19 (.bin .eql (.t 18) (.c (.int .i64 0)))]) (.cond (.t 19) k50_0 (.skip))

def k50_2 : ACode := .seq (.region [W1 8 (.mv (.t 0)), W1 9 (.nck (.t 8)), W1 10 (.fld 3 (.t 9)), W1 11 (.ld none (.t 10)), W1 12 (.bin .sub (.t 11) (.c (.int .i64 1))), W1 13 (.nck (.t 8)), W1 14 (.fld 3 (.t 13)), ⟨none, .st 1 (.t 14) (.t 12), none⟩]) k50_1

def k50_3 : ACode := .seq (.region [W1 26 (.mv (.t 0)), W1 27 (.nck (.t 26)), W1 28 (.fld 2 (.t 27)), W1 29 (.ld none (.t 28)), W1 30 (.bin .add (.t 29) (.c (.int .i64 1))), W1 31 (.nck (.t 26)), W1 32 (.fld 2 (.t 31)), ⟨none, .st 1 (.t 32) (.t 30), none⟩]) (.seq (.region [W1 2 (.mv (.c (.bool true)))]) (.ret))

def k50_4 : ACode := .seq (.seq (.region [W1 3 (.mv (.t 0)), W1 4 (.nck (.t 3)), W1 5 (.fld 3 (.t 4)), W1 6 (.ld none (.t 5)), W1 7 (.bin .gtr (.t 6) (.c (.int .i64 0)))]) (.cond (.t 7) k50_2 (.skip))) k50_3

def c50 : ACode := .seq (.region [W1 2 (.mv (.c (.bool false)))]) k50_4
theorem ok50 : fnOk Try.prog 50 c50 33 [.t 2] = true := by kernel_rfl

def k51_0 : ACode := .cond (.t 12) (.seq (.region [W1 6 (.mv (.c (.bool false)))]) (.ret)) (.skip)

def k51_1 : ACode := .seq (.region [W1 19 (.mv (.t 0)), W1 20 (.mv (.t 0)), W1 21 (.nck (.t 19)), W1 22 (.fld 16 (.t 21)), ⟨none, .st 1 (.t 22) (.c (.bool true)), none⟩, W1 23 (.nck (.t 20)), W1 24 (.fld 17 (.t 23)), ⟨none, .st 1 (.t 24) (.c (.bool false)), none⟩]) (.seq (.region [W1 6 (.mv (.c (.bool true)))]) (.ret))

def k51_2 : ACode := .seq (.region [W1 13 (.mv (.t 0)), W1 14 (.mv (.t 1)), W1 15 (.mv (.t 2)), W1 16 (.nck (.t 13)), W1 17 (.fld 8 (.t 16)), W1 18 (.ixa 8 1 (.t 17) (.t 14)), ⟨none, .st 1 (.t 18) (.t 15), none⟩]) k51_1

def k51_3 : ACode := .seq (.seq (.region [W1 7 (.mv (.t 1)), W1 8 (.bin .lss (.t 7) (.c (.int .i64 0))), W1 9 (.mv (.t 8)), ⟨(some 10), .mv (.t 1), (some (9, false))⟩, ⟨(some 11), .bin .gtr (.t 10) (.c (.int .i64 7)), (some (9, false))⟩, W1 12 (.pick (.t 9) (.c (.bool true)) (.t 11))]) k51_0) k51_2

def c51 : ACode := .seq (.region [W1 6 (.mv (.c (.bool false)))]) k51_3
theorem ok51 : fnOk Try.prog 51 c51 25 [.t 6] = true := by kernel_rfl

def k52_0 : ACode := .region [W1 6 (.mv (.t 0)), W1 7 (.nck (.t 6)), W1 8 (.fld 17 (.t 7)), ⟨none, .st 1 (.t 8) (.c (.bool true)), none⟩]

def c52 : ACode := .seq (.region [W1 2 (.mv (.t 0)), W1 3 (.nck (.t 2)), W1 4 (.fld 16 (.t 3)), W1 5 (.ld none (.t 4))]) (.cond (.t 5) k52_0 (.skip))
theorem ok52 : fnOk Try.prog 52 c52 9 [] = true := by kernel_rfl

def k53_0 : ACode := .seq (.region [W1 3 (.mv (.t 0)), W1 4 (.nck (.t 3)), W1 5 (.fld 17 (.t 4)), W1 6 (.ld none (.t 5)), W1 7 (.mv (.t 6)), ⟨(some 8), .mv (.t 0), (some (7, true))⟩, ⟨(some 9), .call 54 [(.t 8)], (some (7, true))⟩, W1 10 (.pick (.t 7) (.t 9) (.c (.bool false))), W1 2 (.mv (.t 10))]) (.ret)

def c53 : ACode := .seq (.region [W1 2 (.mv (.c (.bool false)))]) k53_0
theorem ok53 : fnOk Try.prog 53 c53 11 [.t 2] = true := by kernel_rfl

def k54_0 : ACode := .cond (.t 7) (.seq (.region [W1 2 (.mv (.c (.bool false)))]) (.ret)) (.skip)

def k54_1 : ACode := .seq (.region [W1 15 (.mv (.t 0)), W1 16 (.mv (.t 0)), W1 17 (.nck (.t 15)), W1 18 (.fld 16 (.t 17)), ⟨none, .st 1 (.t 18) (.c (.bool false)), none⟩, W1 19 (.nck (.t 16)), W1 20 (.fld 17 (.t 19)), ⟨none, .st 1 (.t 20) (.c (.bool false)), none⟩]) (.seq (.region [W1 2 (.mv (.c (.bool true)))]) (.ret))

def k54_2 : ACode := .seq (.region [W1 8 (.mv (.t 0)), W1 9 (.mv (.t 0)), W1 10 (.nck (.t 9)), W1 11 (.fld 8 (.t 10)), W1 12 (.ld (some 8) (.t 11)), W1 13 (.nck (.t 8)), W1 14 (.fld 0 (.t 13)), ⟨none, .st 8 (.t 14) (.t 12), none⟩]) k54_1

def k54_3 : ACode := .seq (.seq (.region [W1 3 (.mv (.t 0)), W1 4 (.nck (.t 3)), W1 5 (.fld 16 (.t 4)), W1 6 (.ld none (.t 5)), W1 7 (.un .not (.t 6))]) k54_0) k54_2

def c54 : ACode := .seq (.region [W1 2 (.mv (.c (.bool false)))]) k54_3
theorem ok54 : fnOk Try.prog 54 c54 21 [.t 2] = true := by kernel_rfl

def k55_0 : ACode := .seq (.region [W1 6 (.mv (.t 0)), W1 7 (.call 54 [(.t 6)]), W1 4 (.mv (.t 7))]) (.ret)

def k55_1 : ACode := .cond (.t 12) (.seq (.region [W1 4 (.mv (.c (.bool false)))]) (.ret)) (.skip)

def k55_2 : ACode := .seq (.region [W1 20 (.mv (.t 0)), W1 21 (.mv (.t 0)), W1 22 (.nck (.t 20)), W1 23 (.fld 16 (.t 22)), ⟨none, .st 1 (.t 23) (.c (.bool false)), none⟩, W1 24 (.nck (.t 21)), W1 25 (.fld 17 (.t 24)), ⟨none, .st 1 (.t 25) (.c (.bool false)), none⟩]) (.seq (.region [W1 4 (.mv (.c (.bool true)))]) (.ret))

def k55_3 : ACode := .seq (.region [W1 13 (.mv (.t 0)), W1 14 (.mv (.t 0)), W1 15 (.nck (.t 14)), W1 16 (.fld 0 (.t 15)), W1 17 (.ld (some 8) (.t 16)), W1 18 (.nck (.t 13)), W1 19 (.fld 8 (.t 18)), ⟨none, .st 8 (.t 19) (.t 17), none⟩]) k55_2

def k55_4 : ACode := .seq (.seq (.region [W1 8 (.mv (.t 0)), W1 9 (.nck (.t 8)), W1 10 (.fld 16 (.t 9)), W1 11 (.ld none (.t 10)), W1 12 (.un .not (.t 11))]) k55_1) k55_3

def k55_5 : ACode := .seq (.seq (.region [W1 5 (.mv (.t 1))]) (.cond (.t 5) k55_0 (.skip))) k55_4

def c55 : ACode := .seq (.region [W1 4 (.mv (.c (.bool false)))]) k55_5
theorem ok55 : fnOk Try.prog 55 c55 26 [.t 4] = true := by kernel_rfl

end Go.Proofs.Ytfahkkefcdeohaa.Ax
