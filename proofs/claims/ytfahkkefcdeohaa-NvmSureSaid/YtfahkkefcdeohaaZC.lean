/- Texts put behind one another: AxCLib, AxCBase, AxCLaw3. Conditions: none. -/
import Derived.Test.YtfahkkefcdeohaaAxEnterZ
import Derived.Test.YtfahkkefcdeohaaProg
import Derived.KernelRfl
set_option linter.unusedSimpArgs false
set_option linter.unusedVariables false
/- The code of functions of the program, for our abstract machine; each is tied to the program by a closed test. Written by gen.py. Conditions: none. -/
namespace Go.Proofs.Ytfahkkefcdeohaa.Ax
open Go Go.Ax
set_option maxRecDepth 100000

def c2 : ACode := .wild
theorem ok2 : fnOk Try.prog 2 c2 1 [] = true := by kernel_rfl

def k48_0 : ACode := .seq (.region [W1 5 (.mv (.t 0)), W1 6 (.mv (.t 1)), W1 7 (.call 57 [(.t 5), (.t 6)]), W1 8 (.bin .geq (.t 7) (.c (.int .i64 0))), W1 4 (.mv (.t 8))]) (.ret)

def c48 : ACode := .seq (.region [W1 4 (.mv (.c (.bool false)))]) k48_0
theorem ok48 : fnOk Try.prog 48 c48 9 [.t 4] = true := by kernel_rfl

def k57_0 : ACode := .cond (.t 16) (.seq (.region [W1 17 (.mv (.t 5)), W1 4 (.mv (.t 17))]) (.ret)) (.skip)

def k57_1 : ACode := .seq (.region [W1 11 (.mv (.t 1)), W1 12 (.mv (.t 0)), W1 13 (.mv (.t 5)), W1 14 (.ixs 1 (.t 12) (.t 13)), W1 15 (.ld none (.t 14)), W1 16 (.bin .eql (.t 11) (.t 15))]) k57_0

def k57_2 : ACode := .seq (.block 1 ( .seq (.region [W1 10 (.mv (.t 8)), W1 5 (.mv (.t 10))]) k57_1)) (.region [W1 18 (.bin .add (.t 8) (.c (.int .i64 1))), W1 8 (.mv (.t 18))])

def b57_3 : ACode := .seq (.region [W1 9 (.bin .lss (.t 8) (.t 7))]) (.seq (.cond (.t 9) (.skip) (.exit 0)) k57_2)

def k57_4 : ACode := .seq (.seq (.region [W1 6 (.mv (.t 0)), W1 7 (.len false (.t 6)), W1 8 (.mv (.c (.int .i64 0)))]) (.block 0 ( .loop b57_3))) (.seq (.region [W1 4 (.mv (.c (.int .i64 (-1))))]) (.ret))

def c57 : ACode := .seq (.region [W1 4 (.mv (.c (.int .i64 0)))]) k57_4
theorem ok57 : fnOk Try.prog 57 c57 19 [.t 4] = true := by kernel_rfl

end Go.Proofs.Ytfahkkefcdeohaa.Ax

/- The code of functions of the program, for our abstract machine; each is tied to the program by a closed test. Written by gen.py. Conditions: none. -/
namespace Go.Proofs.Ytfahkkefcdeohaa.Ax
open Go Go.Ax
set_option maxRecDepth 100000

def k9_0 : ACode := .cond (.t 9) (.seq (.region [W1 6 (.mv (.c (.bool false)))]) (.ret)) (.skip)

def k9_1 : ACode := .seq (.region [W1 16 (.mv (.t 0)), W1 17 (.mv (.t 0)), W1 18 (.nck (.t 16)), W1 19 (.fld 16 (.t 18)), ⟨none, .st 1 (.t 19) (.c (.bool true)), none⟩, W1 20 (.nck (.t 17)), W1 21 (.fld 17 (.t 20)), ⟨none, .st 1 (.t 21) (.c (.bool false)), none⟩]) (.seq (.region [W1 6 (.mv (.c (.bool true)))]) (.ret))

def k9_2 : ACode := .seq (.region [W1 10 (.mv (.t 0)), W1 11 (.mv (.t 1)), W1 12 (.mv (.t 2)), W1 13 (.nck (.t 10)), W1 14 (.fld 8 (.t 13)), W1 15 (.ixa 8 1 (.t 14) (.t 11)), ⟨none, .st 1 (.t 15) (.t 12), none⟩]) k9_1

def k9_3 : ACode := .seq (.seq (.region [W1 7 (.mv (.t 1)), W1 8 (.call 44 [(.t 7)]), W1 9 (.un .not (.t 8))]) k9_0) k9_2

def c9 : ACode := .seq (.region [W1 6 (.mv (.c (.bool false)))]) k9_3
theorem ok9 : fnOk Try.prog 9 c9 22 [.t 6] = true := by kernel_rfl

def c10 : ACode := .region [W1 2 (.mv (.t 0)), W1 3 (.mv (.t 0)), W1 4 (.nck (.t 3)), W1 5 (.fld 17 (.t 4)), W1 6 (.ld none (.t 5)), W1 7 (.mv (.t 6)), ⟨(some 8), .mv (.t 0), (some (7, false))⟩, ⟨(some 9), .nck (.t 8), (some (7, false))⟩, ⟨(some 10), .fld 16 (.t 9), (some (7, false))⟩, ⟨(some 11), .ld none (.t 10), (some (7, false))⟩, W1 12 (.pick (.t 7) (.c (.bool true)) (.t 11)), W1 13 (.nck (.t 2)), W1 14 (.fld 17 (.t 13)), ⟨none, .st 1 (.t 14) (.t 12), none⟩]
theorem ok10 : fnOk Try.prog 10 c10 15 [] = true := by kernel_rfl

def k11_0 : ACode := .seq (.region [W1 3 (.mv (.t 0)), W1 4 (.nck (.t 3)), W1 5 (.fld 17 (.t 4)), W1 6 (.ld none (.t 5)), W1 7 (.mv (.t 6)), ⟨(some 8), .mv (.t 0), (some (7, true))⟩, ⟨(some 9), .call 45 [(.t 8)], (some (7, true))⟩, W1 10 (.pick (.t 7) (.t 9) (.c (.bool false))), W1 2 (.mv (.t 10))]) (.ret)

def c11 : ACode := .seq (.region [W1 2 (.mv (.c (.bool false)))]) k11_0
theorem ok11 : fnOk Try.prog 11 c11 11 [.t 2] = true := by kernel_rfl

def k12_0 : ACode := .seq (.region [W1 13 (.mv (.t 0)), W1 14 (.call 45 [(.t 13)]), W1 4 (.mv (.t 14))]) (.ret)

def k12_1 : ACode := .seq (.region [W1 22 (.mv (.t 0)), W1 23 (.mv (.t 0)), W1 24 (.nck (.t 22)), W1 25 (.fld 16 (.t 24)), ⟨none, .st 1 (.t 25) (.c (.bool false)), none⟩, W1 26 (.nck (.t 23)), W1 27 (.fld 17 (.t 26)), ⟨none, .st 1 (.t 27) (.c (.bool false)), none⟩]) (.seq (.region [W1 4 (.mv (.c (.bool true)))]) (.ret))

def k12_2 : ACode := .seq (.region [W1 15 (.mv (.t 0)), W1 16 (.mv (.t 0)), W1 17 (.nck (.t 16)), W1 18 (.fld 0 (.t 17)), W1 19 (.ld (some 8) (.t 18)), W1 20 (.nck (.t 15)), W1 21 (.fld 8 (.t 20)), ⟨none, .st 8 (.t 21) (.t 19), none⟩]) k12_1

def k12_3 : ACode := .seq (.seq (.region [W1 5 (.mv (.t 1)), W1 6 (.mv (.t 5)), ⟨(some 7), .mv (.t 0), (some (6, false))⟩, ⟨(some 8), .nck (.t 7), (some (6, false))⟩, ⟨(some 9), .fld 16 (.t 8), (some (6, false))⟩, ⟨(some 10), .ld none (.t 9), (some (6, false))⟩, ⟨(some 11), .un .not (.t 10), (some (6, false))⟩, W1 12 (.pick (.t 6) (.c (.bool true)) (.t 11))]) (.cond (.t 12) k12_0 (.skip))) k12_2

def c12 : ACode := .seq (.region [W1 4 (.mv (.c (.bool false)))]) k12_3
theorem ok12 : fnOk Try.prog 12 c12 28 [.t 4] = true := by kernel_rfl

def k14_0 : ACode := .cond (.t 9) (.seq (.region [W1 2 (.mv (.c (.lit (.pointer none)))), W1 3 (.mv (.c (.int .i64 1)))]) (.ret)) (.skip)

def k14_1 : ACode := .seq (.region [W1 10 (.mv (.t 0)), W1 11 (.mks 18 136 [.int .u64 0, .int .u64 0, .int .u64 0, .int .u64 0, .int .u64 0, .int .u64 0, .int .u64 0, .int .u64 0, .int .u64 0, .int .u64 0, .int .u64 0, .int .u64 0, .int .u64 0, .int .u64 0, .int .u64 0, .int .u64 0, .bool false, .bool false] (.t 10) (.t 10)), W1 12 (.build [.lit (.slice none 0 0), .bool false, .int .i64 0, .int .i64 0, .lit (.slice none 0 0)] [(0, 1, (.t 11))]), W1 13 (.box (.t 12)), W1 2 (.mv (.t 13)), W1 3 (.mv (.c (.int .i64 0)))]) (.ret)

def k14_2 : ACode := .seq (.seq (.region [W1 4 (.mv (.t 0)), W1 5 (.bin .lss (.t 4) (.c (.int .i64 1))), W1 6 (.mv (.t 5)), ⟨(some 7), .mv (.t 0), (some (6, false))⟩, ⟨(some 8), .bin .gtr (.t 7) (.c (.int .i64 4096)), (some (6, false))⟩, W1 9 (.pick (.t 6) (.c (.bool true)) (.t 8))]) k14_0) k14_1

def c14 : ACode := .seq (.region [W1 2 (.mv (.c (.lit (.pointer none)))), W1 3 (.mv (.c (.int .i64 0)))]) k14_2
theorem ok14 : fnOk Try.prog 14 c14 14 [.t 2, .t 3] = true := by kernel_rfl

def k16_0 : ACode := .seq (.region [W1 18 (.mv (.t 6)), W1 4 (.mv (.c (.int .u64 0))), W1 5 (.mv (.t 18))]) (.ret)

def k16_1 : ACode := .seq (.region [W1 16 (.mv (.t 6)), W1 17 (.bin .neq (.t 16) (.c (.int .i64 0)))]) (.cond (.t 17) k16_0 (.skip))

def k16_2 : ACode := .seq (.region [W1 19 (.mv (.t 0)), W1 20 (.nck (.t 19)), W1 21 (.fld 0 (.t 20)), W1 22 (.ld none (.t 21)), W1 23 (.mv (.t 1)), W1 24 (.bin .quo (.t 23) (.c (.int .i64 8))), W1 25 (.ixs 18 (.t 22) (.t 24)), W1 26 (.mv (.t 1)), W1 27 (.bin .rem (.t 26) (.c (.int .i64 8))), W1 28 (.call 43 [(.t 25), (.t 27)]), W1 4 (.mv (.t 28)), W1 5 (.mv (.c (.int .i64 0)))]) (.ret)

def k16_3 : ACode := .seq (.seq (.region [W1 7 (.mv (.t 0)), W1 8 (.mv (.t 1)), W1 9 (.mv (.t 0)), W1 10 (.nck (.t 9)), W1 11 (.fld 0 (.t 10)), W1 12 (.ld none (.t 11)), W1 13 (.len false (.t 12)), W1 14 (.bin .mul (.t 13) (.c (.int .i64 8))), W1 15 (.call 46 [(.t 7), (.t 8), (.t 14)]), W1 6 (.mv (.t 15))]) k16_1) k16_2

def c16 : ACode := .seq (.region [W1 4 (.mv (.c (.int .u64 0))), W1 5 (.mv (.c (.int .i64 0)))]) k16_3
theorem ok16 : fnOk Try.prog 16 c16 29 [.t 4, .t 5] = true := by kernel_rfl

def k17_0 : ACode := .cond (.t 18) (.seq (.region [W1 19 (.mv (.t 7)), W1 6 (.mv (.t 19))]) (.ret)) (.skip)

def k17_1 : ACode := .cond (.t 22) (.seq (.region [W1 6 (.mv (.c (.int .i64 12)))]) (.ret)) (.skip)

def k17_2 : ACode := .seq (.region [W1 23 (.mv (.t 0)), W1 24 (.nck (.t 23)), W1 25 (.fld 0 (.t 24)), W1 26 (.ld none (.t 25)), W1 27 (.mv (.t 1)), W1 28 (.bin .quo (.t 27) (.c (.int .i64 8))), W1 29 (.ixs 18 (.t 26) (.t 28)), W1 30 (.mv (.t 1)), W1 31 (.bin .rem (.t 30) (.c (.int .i64 8))), W1 32 (.mv (.t 2)), W1 33 (.call 9 [(.t 29), (.t 31), (.t 32)])]) (.seq (.region [W1 6 (.mv (.c (.int .i64 0)))]) (.ret))

def k17_3 : ACode := .seq (.seq (.region [W1 20 (.mv (.t 0)), W1 21 (.call 47 [(.t 20)]), W1 22 (.un .not (.t 21))]) k17_1) k17_2

def k17_4 : ACode := .seq (.seq (.region [W1 8 (.mv (.t 0)), W1 9 (.mv (.t 1)), W1 10 (.mv (.t 0)), W1 11 (.nck (.t 10)), W1 12 (.fld 0 (.t 11)), W1 13 (.ld none (.t 12)), W1 14 (.len false (.t 13)), W1 15 (.bin .mul (.t 14) (.c (.int .i64 8))), W1 16 (.call 46 [(.t 8), (.t 9), (.t 15)]), W1 7 (.mv (.t 16))]) (.seq (.region [W1 17 (.mv (.t 7)), W1 18 (.bin .neq (.t 17) (.c (.int .i64 0)))]) k17_0)) k17_3

def c17 : ACode := .seq (.region [W1 6 (.mv (.c (.int .i64 0)))]) k17_4
theorem ok17 : fnOk Try.prog 17 c17 34 [.t 6] = true := by kernel_rfl

def k18_0 : ACode := .cond (.t 15) (.seq (.region [W1 16 (.mv (.t 5)), W1 4 (.mv (.t 16))]) (.ret)) (.skip)

def k18_1 : ACode := .cond (.t 19) (.seq (.region [W1 4 (.mv (.c (.int .i64 12)))]) (.ret)) (.skip)

def k18_2 : ACode := .seq (.region [W1 20 (.mv (.t 0)), W1 21 (.nck (.t 20)), W1 22 (.fld 0 (.t 21)), W1 23 (.ld none (.t 22)), W1 24 (.mv (.t 1)), W1 25 (.ixs 18 (.t 23) (.t 24)), W1 26 (.call 10 [(.t 25)])]) (.seq (.region [W1 4 (.mv (.c (.int .i64 0)))]) (.ret))

def k18_3 : ACode := .seq (.seq (.region [W1 17 (.mv (.t 0)), W1 18 (.call 47 [(.t 17)]), W1 19 (.un .not (.t 18))]) k18_1) k18_2

def k18_4 : ACode := .seq (.seq (.region [W1 6 (.mv (.t 0)), W1 7 (.mv (.t 1)), W1 8 (.mv (.t 0)), W1 9 (.nck (.t 8)), W1 10 (.fld 0 (.t 9)), W1 11 (.ld none (.t 10)), W1 12 (.len false (.t 11)), W1 13 (.call 46 [(.t 6), (.t 7), (.t 12)]), W1 5 (.mv (.t 13))]) (.seq (.region [W1 14 (.mv (.t 5)), W1 15 (.bin .neq (.t 14) (.c (.int .i64 0)))]) k18_0)) k18_3

def c18 : ACode := .seq (.region [W1 4 (.mv (.c (.int .i64 0)))]) k18_4
theorem ok18 : fnOk Try.prog 18 c18 27 [.t 4] = true := by kernel_rfl

def k19_0 : ACode := .cond (.t 8) (.seq (.region [W1 9 (.mv (.t 3)), W1 2 (.mv (.t 9))]) (.ret)) (.skip)

def k19_1 : ACode := .cond (.t 12) (.seq (.region [W1 2 (.mv (.c (.int .i64 12)))]) (.ret)) (.skip)

def k19_2 : ACode := .region [W1 21 (.mv (.t 0)), W1 22 (.nck (.t 21)), W1 23 (.fld 0 (.t 22)), W1 24 (.ld none (.t 23)), W1 25 (.mv (.t 4)), W1 26 (.ixs 18 (.t 24) (.t 25)), W1 27 (.call 11 [(.t 26)])]

def k19_3 : ACode := .seq (.block 1 ( .seq (.region [W1 20 (.mv (.t 18)), W1 4 (.mv (.t 20))]) k19_2)) (.region [W1 28 (.bin .add (.t 18) (.c (.int .i64 1))), W1 18 (.mv (.t 28))])

def b19_4 : ACode := .seq (.region [W1 19 (.bin .lss (.t 18) (.t 17))]) (.seq (.cond (.t 19) (.skip) (.exit 0)) k19_3)

def k19_5 : ACode := .seq (.seq (.region [W1 13 (.mv (.t 0)), W1 14 (.nck (.t 13)), W1 15 (.fld 0 (.t 14)), W1 16 (.ld none (.t 15)), W1 17 (.len false (.t 16)), W1 18 (.mv (.c (.int .i64 0)))]) (.block 0 ( .loop b19_4))) (.seq (.region [W1 2 (.mv (.c (.int .i64 0)))]) (.ret))

def k19_6 : ACode := .seq (.seq (.region [W1 10 (.mv (.t 0)), W1 11 (.call 47 [(.t 10)]), W1 12 (.un .not (.t 11))]) k19_1) k19_5

def k19_7 : ACode := .seq (.seq (.region [W1 5 (.mv (.t 0)), W1 6 (.call 46 [(.t 5), (.c (.int .i64 0)), (.c (.int .i64 1))]), W1 3 (.mv (.t 6))]) (.seq (.region [W1 7 (.mv (.t 3)), W1 8 (.bin .neq (.t 7) (.c (.int .i64 0)))]) k19_0)) k19_6

def c19 : ACode := .seq (.region [W1 2 (.mv (.c (.int .i64 0)))]) k19_7
theorem ok19 : fnOk Try.prog 19 c19 29 [.t 2] = true := by kernel_rfl

def k20_0 : ACode := .region [W1 18 (.mv (.t 3)), W1 19 (.mv (.t 4)), W1 20 (.bsl 1 1 [.int .i64 0] [(0, (.t 19))]), W1 21 (.app 1 8 (.t 18) (.t 20)), W1 3 (.mv (.t 21))]

def k20_1 : ACode := .seq (.region [W1 16 (.fld 16 (.t 5)), W1 17 (.ld none (.t 16))]) (.cond (.t 17) k20_0 (.skip))

def k20_2 : ACode := .seq (.block 1 ( .seq (.region [W1 13 (.mv (.t 11)), W1 14 (.ixs 18 (.t 9) (.t 11)), W1 15 (.ld (some 18) (.t 14)), W1 5 (.new [.int .u64 0, .int .u64 0, .int .u64 0, .int .u64 0, .int .u64 0, .int .u64 0, .int .u64 0, .int .u64 0, .int .u64 0, .int .u64 0, .int .u64 0, .int .u64 0, .int .u64 0, .int .u64 0, .int .u64 0, .int .u64 0, .bool false, .bool false]), W1 4 (.mv (.t 13)), ⟨none, .st 18 (.t 5) (.t 15), none⟩]) k20_1)) (.region [W1 22 (.bin .add (.t 11) (.c (.int .i64 1))), W1 11 (.mv (.t 22))])

def b20_3 : ACode := .seq (.region [W1 12 (.bin .lss (.t 11) (.t 10))]) (.seq (.cond (.t 12) (.skip) (.exit 0)) k20_2)

def k20_4 : ACode := .seq (.seq (.region [W1 6 (.mv (.t 0)), W1 7 (.nck (.t 6)), W1 8 (.fld 0 (.t 7)), W1 9 (.ld none (.t 8)), W1 10 (.len false (.t 9)), W1 11 (.mv (.c (.int .i64 0)))]) (.block 0 ( .loop b20_3))) (.seq (.region [W1 23 (.mv (.t 3)), W1 2 (.mv (.t 23))]) (.ret))

def c20 : ACode := .seq (.region [W1 2 (.mv (.c (.lit (.slice none 0 0))))]) (.seq (.region [W1 3 (.mv (.c (.lit (.slice none 0 0))))]) k20_4)
theorem ok20 : fnOk Try.prog 20 c20 24 [.t 2] = true := by kernel_rfl

def k21_0 : ACode := .region [W1 22 (.mv (.t 3)), W1 23 (.fld 8 (.t 5)), W1 24 (.sla 8 (.t 23) none none), W1 25 (.app 1 8 (.t 22) (.t 24)), W1 3 (.mv (.t 25))]

def k21_1 : ACode := .seq (.block 1 ( .seq (.region [W1 20 (.ixs 18 (.t 16) (.t 18)), W1 21 (.ld (some 18) (.t 20)), W1 5 (.new [.int .u64 0, .int .u64 0, .int .u64 0, .int .u64 0, .int .u64 0, .int .u64 0, .int .u64 0, .int .u64 0, .int .u64 0, .int .u64 0, .int .u64 0, .int .u64 0, .int .u64 0, .int .u64 0, .int .u64 0, .int .u64 0, .bool false, .bool false]), ⟨none, .st 18 (.t 5) (.t 21), none⟩]) k21_0)) (.region [W1 26 (.bin .add (.t 18) (.c (.int .i64 1))), W1 18 (.mv (.t 26))])

def b21_2 : ACode := .seq (.region [W1 19 (.bin .lss (.t 18) (.t 17))]) (.seq (.cond (.t 19) (.skip) (.exit 0)) k21_1)

def k21_3 : ACode := .seq (.seq (.region [W1 13 (.mv (.t 0)), W1 14 (.nck (.t 13)), W1 15 (.fld 0 (.t 14)), W1 16 (.ld none (.t 15)), W1 17 (.len false (.t 16)), W1 18 (.mv (.c (.int .i64 0)))]) (.block 0 ( .loop b21_2))) (.seq (.region [W1 27 (.mv (.t 3)), W1 2 (.mv (.t 27))]) (.ret))

def k21_4 : ACode := .seq (.region [W1 6 (.mv (.t 0)), W1 7 (.nck (.t 6)), W1 8 (.fld 0 (.t 7)), W1 9 (.ld none (.t 8)), W1 10 (.len false (.t 9)), W1 11 (.bin .mul (.t 10) (.c (.int .i64 8))), W1 12 (.mks 1 8 [.int .u64 0] (.c (.int .i64 0)) (.t 11)), W1 3 (.mv (.t 12))]) k21_3

def c21 : ACode := .seq (.region [W1 2 (.mv (.c (.lit (.slice none 0 0))))]) k21_4
theorem ok21 : fnOk Try.prog 21 c21 28 [.t 2] = true := by kernel_rfl

def k22_0 : ACode := .drawn [(0, W1 17 (.mv (.t 0))), (1, W1 18 (.nck (.t 17))), (2, W1 19 (.fld 0 (.t 18))), (3, W1 20 (.ld none (.t 19))), (4, W1 21 (.mv (.t 4))), (5, W1 22 (.ixs 18 (.t 20) (.t 21))), (6, W1 23 (.mv (.t 1))), (7, W1 24 (.mv (.t 4))), (8, W1 25 (.call 48 [(.t 23), (.t 24)])), (9, W1 26 (.call 12 [(.t 22), (.t 25)]))] [[], [0], [1], [2], [], [3, 4], [], [], [6, 7], [5, 8, 8]] 0

def k22_1 : ACode := .seq (.block 1 ( .seq (.region [W1 16 (.mv (.t 14)), W1 4 (.mv (.t 16))]) k22_0)) (.region [W1 27 (.bin .add (.t 14) (.c (.int .i64 1))), W1 14 (.mv (.t 27))])

def b22_2 : ACode := .seq (.region [W1 15 (.bin .lss (.t 14) (.t 13))]) (.seq (.cond (.t 15) (.skip) (.exit 0)) k22_1)

def k22_3 : ACode := .region [W1 31 (.mv (.t 0)), W1 32 (.nck (.t 31)), W1 33 (.fld 3 (.t 32)), ⟨none, .st 1 (.t 33) (.c (.int .i64 0)), none⟩]

def k22_4 : ACode := .seq (.region [W1 28 (.mv (.t 0)), W1 29 (.nck (.t 28)), W1 30 (.fld 1 (.t 29)), ⟨none, .st 1 (.t 30) (.c (.bool true)), none⟩]) k22_3

def k22_5 : ACode := .seq (.seq (.region [W1 9 (.mv (.t 0)), W1 10 (.nck (.t 9)), W1 11 (.fld 0 (.t 10)), W1 12 (.ld none (.t 11)), W1 13 (.len false (.t 12)), W1 14 (.mv (.c (.int .i64 0)))]) (.block 0 ( .loop b22_2))) k22_4

def c22 : ACode := .seq (.seq (.region [W1 5 (.mv (.t 0)), W1 6 (.nck (.t 5)), W1 7 (.fld 1 (.t 6)), W1 8 (.ld none (.t 7))]) (.cond (.t 8) (.ret) (.skip))) k22_5
theorem ok22 : fnOk Try.prog 22 c22 34 [] = true := by kernel_rfl

def k26_0 : ACode := .seq (.region [W1 3 (.mv (.t 0)), W1 4 (.nck (.t 3)), W1 5 (.fld 2 (.t 4)), W1 6 (.ld none (.t 5)), W1 2 (.mv (.t 6))]) (.ret)

def c26 : ACode := .seq (.region [W1 2 (.mv (.c (.int .i64 0)))]) k26_0
theorem ok26 : fnOk Try.prog 26 c26 7 [.t 2] = true := by kernel_rfl

def c36 : ACode := .region [W1 2 (.mv (.t 0)), W1 3 (.nck (.t 2)), W1 4 (.fld 1 (.t 3)), ⟨none, .st 1 (.t 4) (.c (.bool false)), none⟩]
theorem ok36 : fnOk Try.prog 36 c36 5 [] = true := by kernel_rfl

def k43_0 : ACode := .cond (.t 7) (.seq (.region [W1 4 (.mv (.c (.int .u64 0)))]) (.ret)) (.skip)

def k43_1 : ACode := .seq (.region [W1 8 (.mv (.t 0)), W1 9 (.mv (.t 1)), W1 10 (.nck (.t 8)), W1 11 (.fld 8 (.t 10)), W1 12 (.ixa 8 1 (.t 11) (.t 9)), W1 13 (.ld none (.t 12)), W1 4 (.mv (.t 13))]) (.ret)

def k43_2 : ACode := .seq (.seq (.region [W1 5 (.mv (.t 1)), W1 6 (.call 44 [(.t 5)]), W1 7 (.un .not (.t 6))]) k43_0) k43_1

def c43 : ACode := .seq (.region [W1 4 (.mv (.c (.int .u64 0)))]) k43_2
theorem ok43 : fnOk Try.prog 43 c43 14 [.t 4] = true := by kernel_rfl

def k44_0 : ACode := .seq (.region [W1 3 (.mv (.t 0)), W1 4 (.bin .geq (.t 3) (.c (.int .i64 0))), W1 5 (.mv (.t 4)), ⟨(some 6), .mv (.t 0), (some (5, true))⟩, ⟨(some 7), .bin .lss (.t 6) (.c (.int .i64 8)), (some (5, true))⟩, W1 8 (.pick (.t 5) (.t 7) (.c (.bool false))), W1 2 (.mv (.t 8))]) (.ret)

def c44 : ACode := .seq (.region [W1 2 (.mv (.c (.bool false)))]) k44_0
theorem ok44 : fnOk Try.prog 44 c44 9 [.t 2] = true := by kernel_rfl

def k45_0 : ACode := .cond (.t 7) (.seq (.region [W1 2 (.mv (.c (.bool false)))]) (.ret)) (.skip)

def k45_1 : ACode := .seq (.region [W1 15 (.mv (.t 0)), W1 16 (.mv (.t 0)), W1 17 (.nck (.t 15)), W1 18 (.fld 16 (.t 17)), ⟨none, .st 1 (.t 18) (.c (.bool false)), none⟩, W1 19 (.nck (.t 16)), W1 20 (.fld 17 (.t 19)), ⟨none, .st 1 (.t 20) (.c (.bool false)), none⟩]) (.seq (.region [W1 2 (.mv (.c (.bool true)))]) (.ret))

def k45_2 : ACode := .seq (.region [W1 8 (.mv (.t 0)), W1 9 (.mv (.t 0)), W1 10 (.nck (.t 9)), W1 11 (.fld 8 (.t 10)), W1 12 (.ld (some 8) (.t 11)), W1 13 (.nck (.t 8)), W1 14 (.fld 0 (.t 13)), ⟨none, .st 8 (.t 14) (.t 12), none⟩]) k45_1

def k45_3 : ACode := .seq (.seq (.region [W1 3 (.mv (.t 0)), W1 4 (.nck (.t 3)), W1 5 (.fld 16 (.t 4)), W1 6 (.ld none (.t 5)), W1 7 (.un .not (.t 6))]) k45_0) k45_2

def c45 : ACode := .seq (.region [W1 2 (.mv (.c (.bool false)))]) k45_3
theorem ok45 : fnOk Try.prog 45 c45 21 [.t 2] = true := by kernel_rfl

def k46_0 : ACode := .cond (.t 12) (.seq (.region [W1 6 (.mv (.c (.int .i64 1)))]) (.ret)) (.skip)

def k46_1 : ACode := .seq (.region [W1 13 (.mv (.t 1)), W1 14 (.bin .lss (.t 13) (.c (.int .i64 0))), W1 15 (.mv (.t 14)), ⟨(some 16), .mv (.t 1), (some (15, false))⟩, ⟨(some 17), .mv (.t 2), (some (15, false))⟩, ⟨(some 18), .bin .geq (.t 16) (.t 17), (some (15, false))⟩, W1 19 (.pick (.t 15) (.c (.bool true)) (.t 18)), W1 12 (.mv (.t 19))]) k46_0

def k46_2 : ACode := .cond (.t 7) (.seq (.region [W1 6 (.mv (.c (.int .i64 12)))]) (.ret)) k46_1

def k46_3 : ACode := .seq (.block 0 ( .seq (.region [W1 8 (.mv (.t 0)), W1 9 (.nck (.t 8)), W1 10 (.fld 1 (.t 9)), W1 11 (.ld none (.t 10)), W1 7 (.mv (.t 11))]) k46_2)) (.seq (.region [W1 6 (.mv (.c (.int .i64 0)))]) (.ret))

def c46 : ACode := .seq (.region [W1 6 (.mv (.c (.int .i64 0)))]) k46_3
theorem ok46 : fnOk Try.prog 46 c46 20 [.t 6] = true := by kernel_rfl

def k47_0 : ACode := .seq (.region [W1 20 (.mv (.t 0)), W1 21 (.mv (.t 0)), W1 22 (.nck (.t 21)), W1 23 (.fld 4 (.t 22)), W1 24 (.ld none (.t 23)), W1 25 (.call 22 [(.t 20), (.t 24)])]) (.seq (.region [W1 2 (.mv (.c (.bool false)))]) (.ret))

def k47_1 : ACode := .seq (.region [W1 15 (.mv (.t 0)), W1 16 (.nck (.t 15)), W1 17 (.fld 3 (.t 16)), W1 18 (.ld none (.t 17)), W1 19 (.bin .eql (.t 18) (.c (.int .i64 0)))]) (.cond (.t 19) k47_0 (.skip))

def k47_2 : ACode := .seq (.region [W1 8 (.mv (.t 0)), W1 9 (.nck (.t 8)), W1 10 (.fld 3 (.t 9)), W1 11 (.ld none (.t 10)), W1 12 (.bin .sub (.t 11) (.c (.int .i64 1))), W1 13 (.nck (.t 8)), W1 14 (.fld 3 (.t 13)), ⟨none, .st 1 (.t 14) (.t 12), none⟩]) k47_1

def k47_3 : ACode := .seq (.region [W1 26 (.mv (.t 0)), W1 27 (.nck (.t 26)), W1 28 (.fld 2 (.t 27)), W1 29 (.ld none (.t 28)), W1 30 (.bin .add (.t 29) (.c (.int .i64 1))), W1 31 (.nck (.t 26)), W1 32 (.fld 2 (.t 31)), ⟨none, .st 1 (.t 32) (.t 30), none⟩]) (.seq (.region [W1 2 (.mv (.c (.bool true)))]) (.ret))

def k47_4 : ACode := .seq (.seq (.region [W1 3 (.mv (.t 0)), W1 4 (.nck (.t 3)), W1 5 (.fld 3 (.t 4)), W1 6 (.ld none (.t 5)), W1 7 (.bin .gtr (.t 6) (.c (.int .i64 0)))]) (.cond (.t 7) k47_2 (.skip))) k47_3

def c47 : ACode := .seq (.region [W1 2 (.mv (.c (.bool false)))]) k47_4
theorem ok47 : fnOk Try.prog 47 c47 33 [.t 2] = true := by kernel_rfl

end Go.Proofs.Ytfahkkefcdeohaa.Ax

/- The code of functions of the program, for our abstract machine; each is tied to the program by a closed test. Written by gen.py. Conditions: none. -/
namespace Go.Proofs.Ytfahkkefcdeohaa.Ax
open Go Go.Ax
set_option maxRecDepth 100000

def k4_0 : ACode := .cond (.t 13) (.seq (.region [W1 2 (.mv (.c (.bool false)))]) (.ret)) (.skip)

def k4_1 : ACode := .cond (.t 16) (.seq (.region [W1 2 (.mv (.c (.bool true)))]) (.ret)) (.skip)

def k4_2 : ACode := .cond (.t 22) (.seq (.region [W1 2 (.mv (.c (.bool false)))]) (.ret)) (.skip)

def k4_3 : ACode := .cond (.t 66) (.seq (.region [W1 2 (.mv (.c (.bool false)))]) (.ret)) (.skip)

def k4_4 : ACode := .region [W1 68 (.mv (.t 7)), W1 69 (.mv (.t 0)), W1 70 (.mv (.t 6)), W1 71 (.ixs 5 (.t 69) (.t 70)), W1 72 (.fld 3 (.t 71)), W1 73 (.ld none (.t 72)), W1 74 (.ixa 8 1 (.t 5) (.t 68)), ⟨none, .st 1 (.t 74) (.t 73), none⟩]

def k4_5 : ACode := .cond (.t 89) (.seq (.region [W1 2 (.mv (.c (.bool false)))]) (.ret)) (.skip)

def k4_6 : ACode := .seq (.region [W1 81 (.mv (.t 11)), W1 82 (.bin .neq (.t 81) (.c (.int .i64 0))), W1 83 (.mv (.t 82)), ⟨(some 84), .mv (.t 10), (some (83, false))⟩, ⟨(some 85), .mv (.t 7), (some (83, false))⟩, ⟨(some 86), .ixa 8 1 (.t 5) (.t 85), (some (83, false))⟩, ⟨(some 87), .ld none (.t 86), (some (83, false))⟩, ⟨(some 88), .bin .neq (.t 84) (.t 87), (some (83, false))⟩, W1 89 (.pick (.t 83) (.c (.bool true)) (.t 88))]) k4_5

def k4_7 : ACode := .seq (.region [W1 76 (.mv (.t 3)), W1 77 (.mv (.t 7)), W1 78 (.call 16 [(.t 76), (.t 77)]), W1 75 (.mv (.t 78)), W1 79 (.ext (.t 75) 0), W1 80 (.ext (.t 75) 1), W1 10 (.mv (.t 79)), W1 11 (.mv (.t 80))]) k4_6

def k4_8 : ACode := .seq (.seq (.region [W1 67 (.mv (.t 8))]) (.cond (.t 67) k4_4 (.skip))) k4_7

def k4_9 : ACode := .seq (.seq (.drawn [(0, W1 52 (.mv (.t 9))), (1, W1 53 (.bin .neq (.t 52) (.c (.int .i64 0)))), (2, W1 54 (.mv (.t 53))), (4, ⟨(some 56), .mv (.t 7), (some (54, false))⟩), (5, ⟨(some 57), .ixa 8 1 (.t 5) (.t 56), (some (54, false))⟩), (6, ⟨(some 58), .ld none (.t 57), (some (54, false))⟩), (7, ⟨(some 59), .mv (.t 0), (some (54, false))⟩), (8, ⟨(some 60), .mv (.t 6), (some (54, false))⟩), (9, ⟨(some 61), .ixs 5 (.t 59) (.t 60), (some (54, false))⟩), (10, ⟨(some 62), .fld 2 (.t 61), (some (54, false))⟩), (11, ⟨(some 63), .ld none (.t 62), (some (54, false))⟩),
 (3, ⟨(some 55), .mv (.t 8), (some (54, false))⟩), (12, ⟨(some 64), .bin .eql (.t 58) (.t 63), (some (54, false))⟩), (13, ⟨(some 65), .eqb true (.t 55) (.t 64), (some (54, false))⟩), (14, W1 66 (.pick (.t 54) (.c (.bool true)) (.t 65)))] [[], [0], [1], [2], [2], [4, 2], [5, 2], [2], [2], [7, 8, 2], [9, 2], [10, 2], [6, 11, 2], [3, 12, 2], [2, 13]] 0) k4_3) k4_8

def k4_10 : ACode := .seq (.drawn [(2, W1 39 (.mv (.t 0))), (3, W1 40 (.mv (.t 6))), (4, W1 41 (.ixs 5 (.t 39) (.t 40))), (5, W1 42 (.fld 2 (.t 41))), (6, W1 43 (.ld none (.t 42))), (7, W1 44 (.mv (.t 0))), (8, W1 45 (.mv (.t 6))), (9, W1 46 (.ixs 5 (.t 44) (.t 45))), (10, W1 47 (.fld 3 (.t 46))), (11, W1 48 (.ld none (.t 47))), (0, W1 37 (.mv (.t 3))), (1, W1 38 (.mv (.t 7))), (12, W1 49 (.call 15 [(.t 37), (.t 38), (.t 43), (.t 48)])), (13, W1 36 (.mv (.t 49))), (14, W1 50 (.ext (.t 36) 0)), (15, W1 51 (.ext (.t 36) 1)), (16, W1 8 (.mv (.t 50))), (17, W1 9 (.mv (.t 51)))]
 [[], [], [], [], [2, 3], [4], [5], [], [], [7, 8], [9], [10], [0, 1, 6, 11], [12], [13], [13], [14, 12, 0, 1, 2, 3, 4, 5, 6, 7, 8, 9, 10, 11, 12, 13, 14], [15, 16, 0, 1, 2, 3, 4, 5, 6, 7, 8, 9, 10, 11, 12, 13, 14, 15, 16]] 0) k4_9

def k4_11 : ACode := .seq (.block 1 ( .seq (.region [W1 30 (.mv (.t 0)), W1 31 (.mv (.t 6)), W1 32 (.ixs 5 (.t 30) (.t 31)), W1 33 (.fld 1 (.t 32)), W1 34 (.ld none (.t 33)), W1 35 (.bin .and (.t 34) (.c (.int .i64 7))), W1 7 (.mv (.t 35))]) k4_10)) (.region [W1 28 (.mv (.t 6)), W1 29 (.bin .add (.t 28) (.c (.int .i64 1))), W1 6 (.mv (.t 29))])

def b4_12 : ACode := .seq (.seq (.region [W1 24 (.mv (.t 6)), W1 25 (.mv (.t 0)), W1 26 (.len false (.t 25)), W1 27 (.bin .lss (.t 24) (.t 26))]) (.cond (.t 27) (.skip) (.exit 0))) k4_11

def k4_13 : ACode := .seq (.seq (.region [W1 6 (.mv (.c (.int .i64 0)))]) (.block 0 ( .loop b4_12))) (.seq (.region [W1 2 (.mv (.c (.bool true)))]) (.ret))

def k4_14 : ACode := .seq (.region [W1 23 (.build [.int .u64 0, .int .u64 0, .int .u64 0, .int .u64 0, .int .u64 0, .int .u64 0, .int .u64 0, .int .u64 0] []), W1 5 (.new [.int .u64 0, .int .u64 0, .int .u64 0, .int .u64 0, .int .u64 0, .int .u64 0, .int .u64 0, .int .u64 0]), ⟨none, .st 8 (.t 5) (.t 23), none⟩]) k4_13

def k4_15 : ACode := .seq (.seq (.region [W1 21 (.mv (.t 3)), W1 22 (.isNil false 0 (.t 21))]) k4_2) k4_14

def k4_16 : ACode := .seq (.region [W1 18 (.call 14 [(.c (.int .i64 1))]), W1 17 (.mv (.t 18)), W1 19 (.ext (.t 17) 0), W1 20 (.ext (.t 17) 1), W1 3 (.mv (.t 19)), W1 4 (.mv (.t 20))]) k4_15

def k4_17 : ACode := .seq (.seq (.region [W1 14 (.mv (.t 0)), W1 15 (.len false (.t 14)), W1 16 (.bin .gtr (.t 15) (.c (.int .i64 60)))]) k4_1) k4_16

def k4_18 : ACode := .seq (.seq (.region [W1 12 (.call 13 []), W1 13 (.un .not (.t 12))]) k4_0) k4_17

def c4 : ACode := .seq (.region [W1 2 (.mv (.c (.bool false)))]) k4_18
theorem ok4 : fnOk Try.prog 4 c4 90 [.t 2] = true := by kernel_rfl

def k5_0 : ACode := .cond (.t 20) (.seq (.region [W1 6 (.mv (.c (.bool false)))]) (.ret)) (.skip)

def k5_1 : ACode := .cond (.t 33) (.seq (.region [W1 6 (.mv (.c (.bool true)))]) (.ret)) (.skip)

def k5_2 : ACode := .cond (.t 39) (.seq (.region [W1 6 (.mv (.c (.bool false)))]) (.ret)) (.skip)

def k5_3 : ACode := .seq (.block 1 ( .drawn [(1, W1 47 (.mv (.t 0))), (2, W1 48 (.mv (.t 9))), (3, W1 49 (.ixs 5 (.t 47) (.t 48))), (4, W1 50 (.fld 1 (.t 49))), (5, W1 51 (.ld none (.t 50))), (6, W1 52 (.mv (.t 0))), (7, W1 53 (.mv (.t 9))), (8, W1 54 (.ixs 5 (.t 52) (.t 53))), (9, W1 55 (.fld 3 (.t 54))), (10, W1 56 (.ld none (.t 55))), (0, W1 46 (.mv (.t 7))), (11, W1 57 (.call 17 [(.t 46), (.t 51), (.t 56)]))] [[], [], [], [1, 2], [3], [4], [], [], [6, 7], [8], [9], [0, 5, 10]] 0)) (.region [W1 44 (.mv (.t 9)), W1 45 (.bin .add (.t 44) (.c (.int .i64 1))), W1 9 (.mv (.t 45))])

def b5_4 : ACode := .seq (.seq (.region [W1 40 (.mv (.t 9)), W1 41 (.mv (.t 0)), W1 42 (.len false (.t 41)), W1 43 (.bin .lss (.t 40) (.t 42))]) (.cond (.t 43) (.skip) (.exit 0))) k5_3

def k5_5 : ACode := .cond (.t 65) (.seq (.region [W1 6 (.mv (.c (.bool false)))]) (.ret)) (.skip)

def k5_6 : ACode := .seq (.block 3 ( .seq (.region [W1 62 (.mv (.t 7)), W1 63 (.mv (.t 10)), W1 64 (.call 18 [(.t 62), (.t 63)]), W1 65 (.bin .neq (.t 64) (.c (.int .i64 0)))]) k5_5)) (.region [W1 60 (.mv (.t 10)), W1 61 (.bin .add (.t 60) (.c (.int .i64 1))), W1 10 (.mv (.t 61))])

def b5_7 : ACode := .seq (.seq (.region [W1 58 (.mv (.t 10)), W1 59 (.bin .lss (.t 58) (.c (.int .i64 4)))]) (.cond (.t 59) (.skip) (.exit 2))) k5_6

def k5_8 : ACode := .cond (.t 74) (.seq (.region [W1 6 (.mv (.c (.bool false)))]) (.ret)) (.skip)

def k5_9 : ACode := .seq (.block 5 ( .drawn [(1, W1 84 (.mv (.t 1))), (2, W1 85 (.mv (.t 12))), (3, W1 86 (.ixs 5 (.t 84) (.t 85))), (4, W1 87 (.fld 1 (.t 86))), (5, W1 88 (.ld none (.t 87))), (6, W1 89 (.mv (.t 1))), (7, W1 90 (.mv (.t 12))), (8, W1 91 (.ixs 5 (.t 89) (.t 90))), (9, W1 92 (.fld 3 (.t 91))), (10, W1 93 (.ld none (.t 92))), (0, W1 83 (.mv (.t 7))), (11, W1 94 (.call 17 [(.t 83), (.t 88), (.t 93)]))] [[], [], [], [1, 2], [3], [4], [], [], [6, 7], [8], [9], [0, 5, 10]] 0)) (.region [W1 81 (.mv (.t 12)), W1 82 (.bin .add (.t 81) (.c (.int .i64 1))), W1 12 (.mv (.t 82))])

def b5_10 : ACode := .seq (.seq (.region [W1 77 (.mv (.t 12)), W1 78 (.mv (.t 1)), W1 79 (.len false (.t 78)), W1 80 (.bin .lss (.t 77) (.t 79))]) (.cond (.t 80) (.skip) (.exit 4))) k5_9

def k5_11 : ACode := .cond (.t 114) (.seq (.region [W1 6 (.mv (.c (.bool false)))]) (.ret)) (.skip)

def k5_12 : ACode := .seq (.block 9 ( .region [W1 125 (.mv (.t 16)), W1 126 (.mv (.t 125)), ⟨(some 127), .mv (.t 2), (some (126, false))⟩, ⟨(some 128), .mv (.t 17), (some (126, false))⟩, ⟨(some 129), .ixs 1 (.t 127) (.t 128), (some (126, false))⟩, ⟨(some 130), .ld none (.t 129), (some (126, false))⟩, ⟨(some 131), .mv (.t 15), (some (126, false))⟩, ⟨(some 132), .bin .eql (.t 130) (.t 131), (some (126, false))⟩, W1 133 (.pick (.t 126) (.c (.bool true)) (.t 132)), W1 16 (.mv (.t 133))])) (.region [W1 123 (.mv (.t 17)), W1 124 (.bin .add (.t 123) (.c (.int .i64 1))), W1 17 (.mv (.t 124))])

def b5_13 : ACode := .seq (.seq (.region [W1 119 (.mv (.t 17)), W1 120 (.mv (.t 2)), W1 121 (.len false (.t 120)), W1 122 (.bin .lss (.t 119) (.t 121))]) (.cond (.t 122) (.skip) (.exit 8))) k5_12

def k5_14 : ACode := .cond (.t 169) (.seq (.region [W1 6 (.mv (.c (.bool false)))]) (.ret)) (.skip)

def k5_15 : ACode := .seq (.block 11 ( .seq (.drawn [(0, W1 143 (.mv (.t 16))), (1, W1 144 (.mv (.t 143))), (2, ⟨(some 145), .mv (.t 14), (some (144, true))⟩), (3, ⟨(some 146), .mv (.t 18), (some (144, true))⟩), (4, ⟨(some 147), .ixs 1 (.t 145) (.t 146), (some (144, true))⟩), (5, ⟨(some 148), .ld none (.t 147), (some (144, true))⟩), (6, ⟨(some 149), .mv (.t 13), (some (144, true))⟩), (7, ⟨(some 150), .mv (.t 18), (some (144, true))⟩), (8, ⟨(some 151), .ixs 1 (.t 149) (.t 150), (some (144, true))⟩), (9, ⟨(some 152), .ld none (.t 151), (some (144, true))⟩),
 (10, ⟨(some 153), .bin .neq (.t 148) (.t 152), (some (144, true))⟩), (11, W1 154 (.pick (.t 144) (.t 153) (.c (.bool false)))), (12, W1 155 (.mv (.t 154))), (13, ⟨(some 156), .mv (.t 16), (some (155, false))⟩), (14, ⟨(some 157), .un .not (.t 156), (some (155, false))⟩), (15, ⟨(some 158), .mv (.t 157), (some (155, false))⟩), (16, ⟨(some 159), .mv (.t 14), (some (158, true))⟩), (17, ⟨(some 160), .mv (.t 18), (some (158, true))⟩), (18, ⟨(some 161), .ixs 1 (.t 159) (.t 160), (some (158, true))⟩), (19, ⟨(some 162), .ld none (.t 161), (some (158, true))⟩),
 (20, ⟨(some 163), .mv (.t 11), (some (158, true))⟩), (21, ⟨(some 164), .mv (.t 18), (some (158, true))⟩), (22, ⟨(some 165), .ixs 1 (.t 163) (.t 164), (some (158, true))⟩), (23, ⟨(some 166), .ld none (.t 165), (some (158, true))⟩), (24, ⟨(some 167), .bin .neq (.t 162) (.t 166), (some (158, true))⟩), (25, ⟨(some 168), .pick (.t 158) (.t 167) (.c (.bool false)), (some (155, false))⟩), (26, W1 169 (.pick (.t 155) (.c (.bool true)) (.t 168)))]
 [[], [0], [1], [1], [2, 3, 1], [4, 1], [1], [1], [6, 7, 1], [8, 1], [5, 9, 1], [1, 10], [11, 1], [12], [13, 12], [14, 12, 12], [15], [15], [16, 17, 15], [18, 15], [15], [15], [20, 21, 15], [22, 15], [19, 23, 15], [15, 24, 12], [12, 25]] 0) k5_14)) (.region [W1 141 (.mv (.t 18)), W1 142 (.bin .add (.t 141) (.c (.int .i64 1))), W1 18 (.mv (.t 142))])

def b5_16 : ACode := .seq (.seq (.region [W1 136 (.mv (.t 18)), W1 137 (.mv (.t 15)), W1 138 (.bin .mul (.c (.int .i64 8)) (.t 137)), W1 139 (.bin .add (.t 138) (.c (.int .i64 8))), W1 140 (.bin .lss (.t 136) (.t 139))]) (.cond (.t 140) (.skip) (.exit 10))) k5_15

def k5_17 : ACode := .seq (.region [W1 134 (.mv (.t 15)), W1 135 (.bin .mul (.c (.int .i64 8)) (.t 134)), W1 18 (.mv (.t 135))]) (.block 10 ( .loop b5_16))

def k5_18 : ACode := .seq (.seq (.region [W1 17 (.mv (.c (.int .i64 0)))]) (.block 8 ( .loop b5_13))) k5_17

def k5_19 : ACode := .seq (.block 7 ( .seq (.region [W1 16 (.mv (.c (.bool false)))]) k5_18)) (.region [W1 117 (.mv (.t 15)), W1 118 (.bin .add (.t 117) (.c (.int .i64 1))), W1 15 (.mv (.t 118))])

def b5_20 : ACode := .seq (.seq (.region [W1 115 (.mv (.t 15)), W1 116 (.bin .lss (.t 115) (.c (.int .i64 4)))]) (.cond (.t 116) (.skip) (.exit 6))) k5_19

def k5_21 : ACode := .seq (.seq (.region [W1 15 (.mv (.c (.int .i64 0)))]) (.block 6 ( .loop b5_20))) (.seq (.region [W1 6 (.mv (.c (.bool true)))]) (.ret))

def k5_22 : ACode := .seq (.seq (.region [W1 102 (.mv (.t 11)), W1 103 (.len false (.t 102)), W1 104 (.bin .neq (.t 103) (.c (.int .i64 32))), W1 105 (.mv (.t 104)), ⟨(some 106), .mv (.t 13), (some (105, false))⟩, ⟨(some 107), .len false (.t 106), (some (105, false))⟩, ⟨(some 108), .bin .neq (.t 107) (.c (.int .i64 32)), (some (105, false))⟩, W1 109 (.pick (.t 105) (.c (.bool true)) (.t 108)), W1 110 (.mv (.t 109)), ⟨(some 111), .mv (.t 14), (some (110, false))⟩, ⟨(some 112), .len false (.t 111), (some (110, false))⟩, ⟨(some 113), .bin .neq (.t 112) (.c (.int .i64 32)), (some (110, false))⟩,
 W1 114 (.pick (.t 110) (.c (.bool true)) (.t 113))]) k5_11) k5_21

def k5_23 : ACode := .seq (.region [W1 100 (.mv (.t 7)), W1 101 (.call 21 [(.t 100)]), W1 14 (.mv (.t 101))]) k5_22

def k5_24 : ACode := .seq (.region [W1 97 (.mv (.t 7)), W1 98 (.mv (.t 2)), W1 99 (.call 22 [(.t 97), (.t 98)])]) k5_23

def k5_25 : ACode := .seq (.region [W1 95 (.mv (.t 7)), W1 96 (.call 21 [(.t 95)]), W1 13 (.mv (.t 96))]) k5_24

def k5_26 : ACode := .seq (.seq (.region [W1 12 (.mv (.c (.int .i64 0)))]) (.block 4 ( .loop b5_10))) k5_25

def k5_27 : ACode := .seq (.region [W1 75 (.mv (.t 7)), W1 76 (.call 21 [(.t 75)]), W1 11 (.mv (.t 76))]) k5_26

def k5_28 : ACode := .seq (.seq (.region [W1 66 (.mv (.t 7)), W1 67 (.call 19 [(.t 66)]), W1 68 (.bin .neq (.t 67) (.c (.int .i64 0))), W1 69 (.mv (.t 68)), ⟨(some 70), .mv (.t 7), (some (69, false))⟩, ⟨(some 71), .call 20 [(.t 70)], (some (69, false))⟩, ⟨(some 72), .len false (.t 71), (some (69, false))⟩, ⟨(some 73), .bin .neq (.t 72) (.c (.int .i64 0)), (some (69, false))⟩, W1 74 (.pick (.t 69) (.c (.bool true)) (.t 73))]) k5_8) k5_27

def k5_29 : ACode := .seq (.seq (.region [W1 10 (.mv (.c (.int .i64 0)))]) (.block 2 ( .loop b5_7))) k5_28

def k5_30 : ACode := .seq (.seq (.region [W1 9 (.mv (.c (.int .i64 0)))]) (.block 0 ( .loop b5_4))) k5_29

def k5_31 : ACode := .seq (.seq (.region [W1 38 (.mv (.t 7)), W1 39 (.isNil false 0 (.t 38))]) k5_2) k5_30

def k5_32 : ACode := .seq (.region [W1 35 (.call 14 [(.c (.int .i64 4))]), W1 34 (.mv (.t 35)), W1 36 (.ext (.t 34) 0), W1 37 (.ext (.t 34) 1), W1 7 (.mv (.t 36)), W1 8 (.mv (.t 37))]) k5_31

def k5_33 : ACode := .seq (.seq (.region [W1 21 (.mv (.t 0)), W1 22 (.len false (.t 21)), W1 23 (.bin .gtr (.t 22) (.c (.int .i64 40))), W1 24 (.mv (.t 23)), ⟨(some 25), .mv (.t 1), (some (24, false))⟩, ⟨(some 26), .len false (.t 25), (some (24, false))⟩, ⟨(some 27), .bin .gtr (.t 26) (.c (.int .i64 40)), (some (24, false))⟩, W1 28 (.pick (.t 24) (.c (.bool true)) (.t 27)), W1 29 (.mv (.t 28)), ⟨(some 30), .mv (.t 2), (some (29, false))⟩, ⟨(some 31), .len false (.t 30), (some (29, false))⟩, ⟨(some 32), .bin .gtr (.t 31) (.c (.int .i64 20)), (some (29, false))⟩,
 W1 33 (.pick (.t 29) (.c (.bool true)) (.t 32))]) k5_1) k5_32

def k5_34 : ACode := .seq (.seq (.region [W1 19 (.call 13 []), W1 20 (.un .not (.t 19))]) k5_0) k5_33

def c5 : ACode := .seq (.region [W1 6 (.mv (.c (.bool false)))]) k5_34
theorem ok5 : fnOk Try.prog 5 c5 170 [.t 6] = true := by kernel_rfl

def k13_0 : ACode := .cond (.t 19) (.seq (.region [W1 0 (.mv (.c (.bool false)))]) (.ret)) (.skip)

def k13_1 : ACode := .seq (.region [W1 40 (.mv (.t 3)), W1 41 (.bin .eql (.t 40) (.c (.int .i64 0))), W1 42 (.mv (.t 41)), ⟨(some 43), .mv (.t 4), (some (42, true))⟩, ⟨(some 44), .bin .eql (.t 43) (.c (.int .i64 0)), (some (42, true))⟩, W1 45 (.pick (.t 42) (.t 44) (.c (.bool false))), W1 46 (.mv (.t 45)), ⟨(some 47), .mv (.t 5), (some (46, true))⟩, ⟨(some 48), .bin .eql (.t 47) (.c (.int .i64 0)), (some (46, true))⟩, W1 49 (.pick (.t 46) (.t 48) (.c (.bool false))), W1 50 (.mv (.t 49)), ⟨(some 51), .mv (.t 7), (some (50, true))⟩,
 ⟨(some 52), .bin .eql (.t 51) (.c (.int .i64 12)), (some (50, true))⟩, W1 53 (.pick (.t 50) (.t 52) (.c (.bool false))), W1 54 (.mv (.t 53)), ⟨(some 55), .mv (.t 9), (some (54, true))⟩, ⟨(some 56), .bin .eql (.t 55) (.c (.int .i64 0)), (some (54, true))⟩, W1 57 (.pick (.t 54) (.t 56) (.c (.bool false))), W1 58 (.mv (.t 57)), ⟨(some 59), .mv (.t 8), (some (58, true))⟩, ⟨(some 60), .bin .eql (.t 59) (.c (.int .u64 7)), (some (58, true))⟩, W1 61 (.pick (.t 58) (.t 60) (.c (.bool false))), W1 62 (.mv (.t 61)), ⟨(some 63), .mv (.t 1), (some (62, true))⟩,
 ⟨(some 64), .call 26 [(.t 63)], (some (62, true))⟩, ⟨(some 65), .bin .eql (.t 64) (.c (.int .i64 3)), (some (62, true))⟩, W1 66 (.pick (.t 62) (.t 65) (.c (.bool false))), W1 0 (.mv (.t 66))]) (.ret)

def k13_2 : ACode := .seq (.region [W1 36 (.mv (.t 1)), W1 37 (.call 16 [(.t 36), (.c (.int .i64 9))]), W1 35 (.mv (.t 37)), W1 38 (.ext (.t 35) 0), W1 39 (.ext (.t 35) 1), W1 8 (.mv (.t 38)), W1 9 (.mv (.t 39))]) k13_1

def k13_3 : ACode := .seq (.region [W1 29 (.mv (.t 1)), W1 30 (.call 16 [(.t 29), (.c (.int .i64 9))]), W1 28 (.mv (.t 30)), W1 31 (.ext (.t 28) 0), W1 32 (.ext (.t 28) 1), W1 6 (.mv (.t 31)), W1 7 (.mv (.t 32))]) (.seq (.region [W1 33 (.mv (.t 1)), W1 34 (.call 36 [(.t 33)])]) k13_2)

def k13_4 : ACode := .seq (.region [W1 20 (.mv (.t 1)), W1 21 (.call 17 [(.t 20), (.c (.int .i64 9)), (.c (.int .u64 7))]), W1 22 (.mv (.t 1)), W1 23 (.call 18 [(.t 22), (.c (.int .i64 1))]), W1 24 (.mv (.t 1)), W1 25 (.call 19 [(.t 24)]), W1 3 (.mv (.t 21)), W1 4 (.mv (.t 23)), W1 5 (.mv (.t 25))]) (.seq (.region [W1 26 (.mv (.t 1)), W1 27 (.call 22 [(.t 26), (.c (.lit (.slice none 0 0)))])]) k13_3)

def k13_5 : ACode := .seq (.seq (.region [W1 14 (.mv (.t 2)), W1 15 (.bin .neq (.t 14) (.c (.int .i64 0))), W1 16 (.mv (.t 15)), ⟨(some 17), .mv (.t 1), (some (16, false))⟩, ⟨(some 18), .isNil false 0 (.t 17), (some (16, false))⟩, W1 19 (.pick (.t 16) (.c (.bool true)) (.t 18))]) k13_0) k13_4

def k13_6 : ACode := .seq (.region [W1 11 (.call 14 [(.c (.int .i64 2))]), W1 10 (.mv (.t 11)), W1 12 (.ext (.t 10) 0), W1 13 (.ext (.t 10) 1), W1 1 (.mv (.t 12)), W1 2 (.mv (.t 13))]) k13_5

def c13 : ACode := .seq (.region [W1 0 (.mv (.c (.bool false)))]) k13_6
theorem ok13 : fnOk Try.prog 13 c13 67 [.t 0] = true := by kernel_rfl

end Go.Proofs.Ytfahkkefcdeohaa.Ax
