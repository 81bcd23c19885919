/- Texts put behind one another: AxCLaw15. Conditions: none. -/
import Derived.Test.YtipigjckoejfpaaAxEnterZ
import Derived.Test.YtipigjckoejfpaaProg
import Derived.KernelRfl
set_option linter.unusedSimpArgs false
set_option linter.unusedVariables false
namespace Go.Proofs.Ytipigjckoejfpaa.Ax
open Go Go.Ax
set_option maxRecDepth 100000

def k5_0 : ACode :=
 .cond (.t 35)
 (.seq (.region [
 ⟨(some 0), .mv (.c (.bool false)), none⟩])
 (.ret))
 (.skip)

def k5_1 : ACode :=
 .cond (.t 159)
 (.seq (.region [
 ⟨(some 0), .mv (.c (.bool false)), none⟩])
 (.ret))
 (.skip)

def k5_2 : ACode :=
 .cond (.t 179)
 (.seq (.region [
 ⟨(some 0), .mv (.c (.bool false)), none⟩])
 (.ret))
 (.skip)

def k5_3 : ACode :=
 .seq (.region [
 ⟨(some 211), .mv (.t 3), none⟩,
 ⟨(some 212), .bin .eql (.t 211) (.c (.int .i64 7)), none⟩,
 ⟨(some 213), .mv (.t 212), none⟩,
 ⟨(some 214), .mv (.t 5), (some (213, true))⟩,
 ⟨(some 215), .bin .eql (.t 214) (.c (.int .i64 4)), (some (213, true))⟩,
 ⟨(some 216), .pick (.t 213) (.t 215) (.c (.bool false)), none⟩,
 ⟨(some 217), .mv (.t 216), none⟩,
 ⟨(some 218), .mv (.t 7), (some (217, true))⟩,
 ⟨(some 219), .bin .eql (.t 218) (.c (.int .i64 5)), (some (217, true))⟩,
 ⟨(some 220), .pick (.t 217) (.t 219) (.c (.bool false)), none⟩,
 ⟨(some 221), .mv (.t 220), none⟩,
 ⟨(some 222), .mv (.t 9), (some (221, true))⟩,
 ⟨(some 223), .bin .eql (.t 222) (.c (.int .i64 8)), (some (221, true))⟩,
 ⟨(some 224), .pick (.t 221) (.t 223) (.c (.bool false)), none⟩,
 ⟨(some 225), .mv (.t 224), none⟩,
 ⟨(some 226), .mv (.t 11), (some (225, true))⟩,
 ⟨(some 227), .bin .eql (.t 226) (.c (.int .i64 1)), (some (225, true))⟩,
 ⟨(some 228), .pick (.t 225) (.t 227) (.c (.bool false)), none⟩,
 ⟨(some 229), .mv (.t 228), none⟩,
 ⟨(some 230), .mv (.t 13), (some (229, true))⟩,
 ⟨(some 231), .bin .eql (.t 230) (.c (.int .i64 3)), (some (229, true))⟩,
 ⟨(some 232), .pick (.t 229) (.t 231) (.c (.bool false)), none⟩,
 ⟨(some 233), .mv (.t 232), none⟩,
 ⟨(some 234), .mv (.t 15), (some (233, true))⟩,
 ⟨(some 235), .bin .eql (.t 234) (.c (.int .i64 0)), (some (233, true))⟩,
 ⟨(some 236), .pick (.t 233) (.t 235) (.c (.bool false)), none⟩,
 ⟨(some 237), .mv (.t 236), none⟩,
 ⟨(some 238), .mv (.t 17), (some (237, true))⟩,
 ⟨(some 239), .bin .eql (.t 238) (.c (.int .i64 0)), (some (237, true))⟩,
 ⟨(some 240), .pick (.t 237) (.t 239) (.c (.bool false)), none⟩,
 ⟨(some 241), .mv (.t 240), none⟩,
 ⟨(some 242), .mv (.t 19), (some (241, true))⟩,
 ⟨(some 243), .bin .eql (.t 242) (.c (.int .i64 8)), (some (241, true))⟩,
 ⟨(some 244), .pick (.t 241) (.t 243) (.c (.bool false)), none⟩,
 ⟨(some 245), .mv (.t 244), none⟩,
 ⟨(some 246), .mv (.t 21), (some (245, true))⟩,
 ⟨(some 247), .bin .eql (.t 246) (.c (.int .i64 8)), (some (245, true))⟩,
 ⟨(some 248), .pick (.t 245) (.t 247) (.c (.bool false)), none⟩,
 ⟨(some 249), .mv (.t 248), none⟩,
 ⟨(some 250), .mv (.t 23), (some (249, true))⟩,
 ⟨(some 251), .bin .eql (.t 250) (.c (.int .i64 0)), (some (249, true))⟩,
 ⟨(some 252), .pick (.t 249) (.t 251) (.c (.bool false)), none⟩,
 ⟨(some 253), .mv (.t 252), none⟩,
 ⟨(some 254), .ld (some 5) (.t 16), (some (253, true))⟩,
 ⟨(some 255), .call 24 [(.t 254), (.c (.int .i64 0))], (some (253, true))⟩,
 ⟨(some 256), .bin .eql (.t 255) (.c (.int .i64 64)), (some (253, true))⟩,
 ⟨(some 257), .pick (.t 253) (.t 256) (.c (.bool false)), none⟩,
 ⟨(some 258), .mv (.t 257), none⟩,
 ⟨(some 259), .ld (some 5) (.t 1), (some (258, true))⟩,
 ⟨(some 260), .call 24 [(.t 259), (.c (.int .i64 0))], (some (258, true))⟩,
 ⟨(some 261), .bin .eql (.t 260) (.c (.int .i64 0)), (some (258, true))⟩,
 ⟨(some 262), .pick (.t 258) (.t 261) (.c (.bool false)), none⟩,
 ⟨(some 263), .mv (.t 262), none⟩,
 ⟨(some 264), .ld (some 5) (.t 16), (some (263, true))⟩,
 ⟨(some 265), .call 24 [(.t 264), (.c (.int .i64 1))], (some (263, true))⟩,
 ⟨(some 266), .bin .eql (.t 265) (.c (.int .i64 0)), (some (263, true))⟩,
 ⟨(some 267), .pick (.t 263) (.t 266) (.c (.bool false)), none⟩,
 ⟨(some 268), .mv (.t 267), none⟩,
 ⟨(some 269), .ld (some 5) (.t 27), (some (268, true))⟩,
 ⟨(some 270), .call 24 [(.t 269), (.c (.int .i64 0))], (some (268, true))⟩,
 ⟨(some 271), .bin .eql (.t 270) (.c (.int .i64 0)), (some (268, true))⟩,
 ⟨(some 272), .pick (.t 268) (.t 271) (.c (.bool false)), none⟩,
 ⟨(some 273), .mv (.t 272), none⟩,
 ⟨(some 274), .mv (.t 26), (some (273, true))⟩,
 ⟨(some 275), .bin .eql (.t 274) (.c (.int .i64 6)), (some (273, true))⟩,
 ⟨(some 276), .pick (.t 273) (.t 275) (.c (.bool false)), none⟩,
 ⟨(some 277), .mv (.t 276), none⟩,
 ⟨(some 278), .mv (.t 29), (some (277, true))⟩,
 ⟨(some 279), .bin .eql (.t 278) (.c (.int .i64 0)), (some (277, true))⟩,
 ⟨(some 280), .pick (.t 277) (.t 279) (.c (.bool false)), none⟩,
 ⟨(some 281), .mv (.t 280), none⟩,
 ⟨(some 282), .fld 4 (.t 28), (some (281, true))⟩,
 ⟨(some 283), .ld none (.t 282), (some (281, true))⟩,
 ⟨(some 284), .len false (.t 283), (some (281, true))⟩,
 ⟨(some 285), .bin .eql (.t 284) (.c (.int .i64 16)), (some (281, true))⟩,
 ⟨(some 286), .pick (.t 281) (.t 285) (.c (.bool false)), none⟩,
 ⟨(some 287), .mv (.t 286), none⟩,
 ⟨(some 288), .fld 4 (.t 28), (some (287, true))⟩,
 ⟨(some 289), .ld none (.t 288), (some (287, true))⟩,
 ⟨(some 290), .ixs 13 (.t 289) (.c (.int .i64 0)), (some (287, true))⟩,
 ⟨(some 291), .fld 4 (.t 290), (some (287, true))⟩,
 ⟨(some 292), .ld none (.t 291), (some (287, true))⟩,
 ⟨(some 293), .bin .eql (.t 292) (.c (.int .i64 1)), (some (287, true))⟩,
 ⟨(some 294), .pick (.t 287) (.t 293) (.c (.bool false)), none⟩,
 ⟨(some 295), .mv (.t 294), none⟩,
 ⟨(some 296), .fld 0 (.t 31), (some (295, true))⟩,
 ⟨(some 297), .ld none (.t 296), (some (295, true))⟩,
 ⟨(some 298), .bin .eql (.t 297) (.c (.int .i64 1)), (some (295, true))⟩,
 ⟨(some 299), .pick (.t 295) (.t 298) (.c (.bool false)), none⟩,
 ⟨(some 300), .mv (.t 299), none⟩,
 ⟨(some 301), .fld 0 (.t 33), (some (300, true))⟩,
 ⟨(some 302), .ld none (.t 301), (some (300, true))⟩,
 ⟨(some 303), .bin .eql (.t 302) (.c (.int .i64 1)), (some (300, true))⟩,
 ⟨(some 304), .pick (.t 300) (.t 303) (.c (.bool false)), none⟩,
 ⟨(some 305), .mv (.t 304), none⟩,
 ⟨(some 306), .fld 4 (.t 16), (some (305, true))⟩,
 ⟨(some 307), .ld none (.t 306), (some (305, true))⟩,
 ⟨(some 308), .ixs 13 (.t 307) (.c (.int .i64 5)), (some (305, true))⟩,
 ⟨(some 309), .ld (some 13) (.t 308), (some (305, true))⟩,
 ⟨(some 310), .build [.int .i64 0, .int .i64 0, .int .i64 0, .int .i64 0, .int .i64 0, .int .i64 0, .int .i64 0, .bool false, .int .u64 0, .int .u64 0, .int .u64 0, .int .u64 0, .int .u64 0] [(0, 1, (.c (.int .i64 2))), (1, 1, (.c (.int .i64 2))), (2, 1, (.c (.int .i64 16)))], (some (305, true))⟩,
 ⟨(some 311), .eqs false [0, 0, 0, 0, 0, 0, 0, 1, 0, 0, 0, 0, 0] (.t 309) (.t 310), (some (305, true))⟩,
 ⟨(some 312), .pick (.t 305) (.t 311) (.c (.bool false)), none⟩,
 ⟨(some 0), .mv (.t 312), none⟩])
 (.ret)

def k5_4 : ACode :=
 .seq (.drawn [
 (0, ⟨(some 204), .ld (some 5) (.t 1), none⟩),
 (1, ⟨(some 205), .born 0 (.bsl 1 1 [.int .i64 0] [(0, (.c (.int .i64 0)))]), none⟩),
 (2, ⟨(some 206), .call 21 [(.t 205)], none⟩),
 (3, ⟨(some 207), .build [.int .i64 0, .lit (.slice none 0 0), .lit (.slice none 0 0), .int .i64 0, .int .i64 0, .int .u64 0] [(0, 1, (.c (.int .i64 13))), (1, 1, (.t 206))], none⟩),
 (4, ⟨(some 208), .call 23 [(.t 204), (.c (.int .i64 0)), (.t 207)], none⟩),
 (5, ⟨(some 203), .mv (.t 208), none⟩),
 (6, ⟨(some 209), .ext (.t 203) 0, none⟩),
 (8, ⟨(some 32), .born 1 (.new [.int .i64 0, .int .i64 0, .int .i64 0, .lit (.slice none 0 0), .lit (.slice none 0 0)]), none⟩),
 (9, ⟨(some 33), .born 2 (.new [.int .i64 0, .int .u64 0, .int .i64 0]), none⟩),
 (10, ⟨none, .st 5 (.t 32) (.t 209), none⟩),
 (7, ⟨(some 210), .ext (.t 203) 1, none⟩),
 (11, ⟨none, .st 3 (.t 33) (.t 210), none⟩)]
 [[], [], [1], [2], [0, 3, 2], [4], [5], [5], [], [], [8, 6, 4, 0, 1, 2, 3, 4, 5, 6, 8, 9], [9, 7, 10, 0, 1, 2, 3, 4, 5, 6, 7, 8, 9, 10]] 3)
 k5_3

def k5_5 : ACode :=
 .seq (.drawn [
 (0, ⟨(some 194), .ld (some 5) (.t 1), none⟩),
 (1, ⟨(some 195), .born 0 (.bsl 1 1 [.int .i64 0] [(0, (.c (.int .i64 0)))]), none⟩),
 (2, ⟨(some 196), .call 21 [(.t 195)], none⟩),
 (3, ⟨(some 197), .born 1 (.bsl 1 1 [.int .i64 0] [(0, (.c (.int .i64 3)))]), none⟩),
 (4, ⟨(some 198), .call 21 [(.t 197)], none⟩),
 (5, ⟨(some 199), .build [.int .i64 0, .lit (.slice none 0 0), .lit (.slice none 0 0), .int .i64 0, .int .i64 0, .int .u64 0] [(0, 1, (.c (.int .i64 1))), (1, 1, (.t 196)), (2, 1, (.t 198)), (3, 1, (.c (.int .i64 4)))], none⟩),
 (6, ⟨(some 200), .call 23 [(.t 194), (.c (.int .i64 2)), (.t 199)], none⟩),
 (7, ⟨(some 193), .mv (.t 200), none⟩),
 (8, ⟨(some 201), .ext (.t 193) 0, none⟩),
 (10, ⟨(some 30), .born 2 (.new [.int .i64 0, .int .i64 0, .int .i64 0, .lit (.slice none 0 0), .lit (.slice none 0 0)]), none⟩),
 (11, ⟨(some 31), .born 3 (.new [.int .i64 0, .int .u64 0, .int .i64 0]), none⟩),
 (12, ⟨none, .st 5 (.t 30) (.t 201), none⟩),
 (9, ⟨(some 202), .ext (.t 193) 1, none⟩),
 (13, ⟨none, .st 3 (.t 31) (.t 202), none⟩)]
 [[], [], [1], [], [3, 2], [2, 4], [0, 5, 4], [6], [7], [7], [], [], [10, 8, 6, 0, 1, 2, 3, 4, 5, 6, 7, 8, 10, 11], [11, 9, 12, 0, 1, 2, 3, 4, 5, 6, 7, 8, 9, 10, 11, 12]] 4)
 k5_4

def k5_6 : ACode :=
 .seq (.drawn [
 (0, ⟨(some 185), .ld (some 5) (.t 27), none⟩),
 (1, ⟨(some 186), .born 0 (.bsl 1 1 [.int .i64 0] [(0, (.c (.int .i64 0)))]), none⟩),
 (2, ⟨(some 187), .call 21 [(.t 186)], none⟩),
 (3, ⟨(some 188), .born 1 (.bsl 1 1 [.int .i64 0] [(0, (.c (.int .i64 3)))]), none⟩),
 (4, ⟨(some 189), .call 21 [(.t 188)], none⟩),
 (5, ⟨(some 190), .call 20 [(.t 185), (.t 187), (.t 189), (.c (.int .i64 4)), (.c (.int .i64 0))], none⟩),
 (6, ⟨(some 184), .mv (.t 190), none⟩),
 (7, ⟨(some 191), .ext (.t 184) 0, none⟩),
 (9, ⟨(some 28), .born 2 (.new [.int .i64 0, .int .i64 0, .int .i64 0, .lit (.slice none 0 0), .lit (.slice none 0 0)]), none⟩),
 (10, ⟨none, .st 5 (.t 28) (.t 191), none⟩),
 (8, ⟨(some 192), .ext (.t 184) 1, none⟩),
 (11, ⟨(some 29), .mv (.t 192), none⟩)]
 [[], [], [1], [], [3, 2], [0, 2, 4, 4], [5], [6], [6], [], [9, 7, 5, 0, 1, 2, 3, 4, 5, 6, 7, 9], [8, 10, 0, 1, 2, 3, 4, 5, 6, 7, 8, 9, 10]] 3)
 k5_5

def k5_7 : ACode :=
 .seq (.region [
 ⟨(some 180), .fld 4 (.t 27), none⟩,
 ⟨(some 181), .ld none (.t 180), none⟩,
 ⟨(some 182), .ixs 13 (.t 181) (.c (.int .i64 0)), none⟩,
 ⟨(some 183), .fld 4 (.t 182), none⟩,
 ⟨none, .st 1 (.t 183) (.c (.int .i64 64)), none⟩])
 k5_6

def k5_8 : ACode :=
 .seq (.seq (.region [
 ⟨(some 176), .fld 4 (.t 27), none⟩,
 ⟨(some 177), .ld none (.t 176), none⟩,
 ⟨(some 178), .len false (.t 177), none⟩,
 ⟨(some 179), .bin .neq (.t 178) (.c (.int .i64 16)), none⟩])
 k5_2)
 k5_7

def k5_9 : ACode :=
 .seq (.region [
 ⟨(some 174), .ld (some 5) (.t 1), none⟩,
 ⟨(some 175), .call 22 [(.t 174)], none⟩,
 ⟨(some 27), .new [.int .i64 0, .int .i64 0, .int .i64 0, .lit (.slice none 0 0), .lit (.slice none 0 0)], none⟩,
 ⟨none, .st 5 (.t 27) (.t 175), none⟩])
 k5_8

def k5_10 : ACode :=
 .seq (.drawn [
 (0, ⟨(some 166), .ld (some 5) (.t 24), none⟩),
 (1, ⟨(some 167), .born 0 (.bsl 1 1 [.int .i64 0] [(0, (.c (.int .i64 0)))]), none⟩),
 (2, ⟨(some 168), .call 21 [(.t 167)], none⟩),
 (3, ⟨(some 169), .born 1 (.bsl 1 1 [.int .i64 0] [(0, (.c (.int .i64 3)))]), none⟩),
 (4, ⟨(some 170), .call 21 [(.t 169)], none⟩),
 (5, ⟨(some 171), .call 20 [(.t 166), (.t 168), (.t 170), (.c (.int .i64 4)), (.c (.int .i64 0))], none⟩),
 (6, ⟨(some 165), .mv (.t 171), none⟩),
 (7, ⟨(some 172), .ext (.t 165) 0, none⟩),
 (9, ⟨(some 25), .born 2 (.new [.int .i64 0, .int .i64 0, .int .i64 0, .lit (.slice none 0 0), .lit (.slice none 0 0)]), none⟩),
 (10, ⟨none, .st 5 (.t 25) (.t 172), none⟩),
 (8, ⟨(some 173), .ext (.t 165) 1, none⟩),
 (11, ⟨(some 26), .mv (.t 173), none⟩)]
 [[], [], [1], [], [3, 2], [0, 2, 4, 4], [5], [6], [6], [], [9, 7, 5, 0, 1, 2, 3, 4, 5, 6, 7, 9], [8, 10, 0, 1, 2, 3, 4, 5, 6, 7, 8, 9, 10]] 3)
 k5_9

def k5_11 : ACode :=
 .seq (.region [
 ⟨(some 160), .fld 3 (.t 24), none⟩,
 ⟨(some 161), .ld none (.t 160), none⟩,
 ⟨(some 162), .ixs 5 (.t 161) (.c (.int .i64 0)), none⟩,
 ⟨(some 163), .fld 0 (.t 162), none⟩,
 ⟨(some 164), .fld 2 (.t 163), none⟩,
 ⟨none, .st 1 (.t 164) (.c (.int .i64 1)), none⟩])
 k5_10

def k5_12 : ACode :=
 .seq (.seq (.region [
 ⟨(some 138), .fld 3 (.t 24), none⟩,
 ⟨(some 139), .ld none (.t 138), none⟩,
 ⟨(some 140), .len false (.t 139), none⟩,
 ⟨(some 141), .bin .neq (.t 140) (.c (.int .i64 32)), none⟩,
 ⟨(some 142), .mv (.t 141), none⟩,
 ⟨(some 143), .fld 3 (.t 16), (some (142, false))⟩,
 ⟨(some 144), .ld none (.t 143), (some (142, false))⟩,
 ⟨(some 145), .len false (.t 144), (some (142, false))⟩,
 ⟨(some 146), .bin .neq (.t 145) (.c (.int .i64 32)), (some (142, false))⟩,
 ⟨(some 147), .pick (.t 142) (.c (.bool true)) (.t 146), none⟩,
 ⟨(some 148), .mv (.t 147), none⟩,
 ⟨(some 149), .fld 4 (.t 16), (some (148, false))⟩,
 ⟨(some 150), .ld none (.t 149), (some (148, false))⟩,
 ⟨(some 151), .len false (.t 150), (some (148, false))⟩,
 ⟨(some 152), .bin .neq (.t 151) (.c (.int .i64 16)), (some (148, false))⟩,
 ⟨(some 153), .pick (.t 148) (.c (.bool true)) (.t 152), none⟩,
 ⟨(some 154), .mv (.t 153), none⟩,
 ⟨(some 155), .fld 4 (.t 20), (some (154, false))⟩,
 ⟨(some 156), .ld none (.t 155), (some (154, false))⟩,
 ⟨(some 157), .len false (.t 156), (some (154, false))⟩,
 ⟨(some 158), .bin .neq (.t 157) (.c (.int .i64 16)), (some (154, false))⟩,
 ⟨(some 159), .pick (.t 154) (.c (.bool true)) (.t 158), none⟩])
 k5_1)
 k5_11

def k5_13 : ACode :=
 .seq (.region [
 ⟨(some 136), .ld (some 5) (.t 1), none⟩,
 ⟨(some 137), .call 22 [(.t 136)], none⟩,
 ⟨(some 24), .new [.int .i64 0, .int .i64 0, .int .i64 0, .lit (.slice none 0 0), .lit (.slice none 0 0)], none⟩,
 ⟨none, .st 5 (.t 24) (.t 137), none⟩])
 k5_12

def k5_14 : ACode :=
 .seq (.drawn [
 (0, ⟨(some 128), .ld (some 5) (.t 20), none⟩),
 (1, ⟨(some 129), .born 0 (.bsl 1 1 [.int .i64 0] [(0, (.c (.int .i64 3)))]), none⟩),
 (2, ⟨(some 130), .call 21 [(.t 129)], none⟩),
 (3, ⟨(some 131), .born 1 (.bsl 1 1 [.int .i64 0] [(0, (.c (.int .i64 6)))]), none⟩),
 (4, ⟨(some 132), .call 21 [(.t 131)], none⟩),
 (5, ⟨(some 133), .call 20 [(.t 128), (.t 130), (.t 132), (.c (.int .i64 2)), (.c (.int .i64 1))], none⟩),
 (6, ⟨(some 127), .mv (.t 133), none⟩),
 (7, ⟨(some 134), .ext (.t 127) 0, none⟩),
 (9, ⟨(some 22), .born 2 (.new [.int .i64 0, .int .i64 0, .int .i64 0, .lit (.slice none 0 0), .lit (.slice none 0 0)]), none⟩),
 (10, ⟨none, .st 5 (.t 22) (.t 134), none⟩),
 (8, ⟨(some 135), .ext (.t 127) 1, none⟩),
 (11, ⟨(some 23), .mv (.t 135), none⟩)]
 [[], [], [1], [], [3, 2], [0, 2, 4, 4], [5], [6], [6], [], [9, 7, 5, 0, 1, 2, 3, 4, 5, 6, 7, 9], [8, 10, 0, 1, 2, 3, 4, 5, 6, 7, 8, 9, 10]] 3)
 k5_13

def k5_15 : ACode :=
 .seq (.drawn [
 (0, ⟨(some 119), .ld (some 5) (.t 16), none⟩),
 (1, ⟨(some 120), .born 0 (.bsl 1 1 [.int .i64 0] [(0, (.c (.int .i64 3)))]), none⟩),
 (2, ⟨(some 121), .call 21 [(.t 120)], none⟩),
 (3, ⟨(some 122), .born 1 (.bsl 1 1 [.int .i64 0] [(0, (.c (.int .i64 5)))]), none⟩),
 (4, ⟨(some 123), .call 21 [(.t 122)], none⟩),
 (5, ⟨(some 124), .call 20 [(.t 119), (.t 121), (.t 123), (.c (.int .i64 2)), (.c (.int .i64 4))], none⟩),
 (6, ⟨(some 118), .mv (.t 124), none⟩),
 (7, ⟨(some 125), .ext (.t 118) 0, none⟩),
 (9, ⟨(some 20), .born 2 (.new [.int .i64 0, .int .i64 0, .int .i64 0, .lit (.slice none 0 0), .lit (.slice none 0 0)]), none⟩),
 (10, ⟨none, .st 5 (.t 20) (.t 125), none⟩),
 (8, ⟨(some 126), .ext (.t 118) 1, none⟩),
 (11, ⟨(some 21), .mv (.t 126), none⟩)]
 [[], [], [1], [], [3, 2], [0, 2, 4, 4], [5], [6], [6], [], [9, 7, 5, 0, 1, 2, 3, 4, 5, 6, 7, 9], [8, 10, 0, 1, 2, 3, 4, 5, 6, 7, 8, 9, 10]] 3)
 k5_14

def k5_16 : ACode :=
 .seq (.drawn [
 (0, ⟨(some 110), .ld (some 5) (.t 16), none⟩),
 (1, ⟨(some 111), .born 0 (.bsl 1 1 [.int .i64 0] [(0, (.c (.int .i64 0)))]), none⟩),
 (2, ⟨(some 112), .call 21 [(.t 111)], none⟩),
 (3, ⟨(some 113), .born 1 (.bsl 1 1 [.int .i64 0] [(0, (.c (.int .i64 5)))]), none⟩),
 (4, ⟨(some 114), .call 21 [(.t 113)], none⟩),
 (5, ⟨(some 115), .call 20 [(.t 110), (.t 112), (.t 114), (.c (.int .i64 4)), (.c (.int .i64 0))], none⟩),
 (6, ⟨(some 109), .mv (.t 115), none⟩),
 (7, ⟨(some 116), .ext (.t 109) 0, none⟩),
 (9, ⟨(some 18), .born 2 (.new [.int .i64 0, .int .i64 0, .int .i64 0, .lit (.slice none 0 0), .lit (.slice none 0 0)]), none⟩),
 (10, ⟨none, .st 5 (.t 18) (.t 116), none⟩),
 (8, ⟨(some 117), .ext (.t 109) 1, none⟩),
 (11, ⟨(some 19), .mv (.t 117), none⟩)]
 [[], [], [1], [], [3, 2], [0, 2, 4, 4], [5], [6], [6], [], [9, 7, 5, 0, 1, 2, 3, 4, 5, 6, 7, 9], [8, 10, 0, 1, 2, 3, 4, 5, 6, 7, 8, 9, 10]] 3)
 k5_15

def k5_17 : ACode :=
 .seq (.drawn [
 (0, ⟨(some 101), .ld (some 5) (.t 14), none⟩),
 (1, ⟨(some 102), .born 0 (.bsl 1 1 [.int .i64 0] [(0, (.c (.int .i64 0)))]), none⟩),
 (2, ⟨(some 103), .call 21 [(.t 102)], none⟩),
 (3, ⟨(some 104), .born 1 (.bsl 1 1 [.int .i64 0] [(0, (.c (.int .i64 4)))]), none⟩),
 (4, ⟨(some 105), .call 21 [(.t 104)], none⟩),
 (5, ⟨(some 106), .call 20 [(.t 101), (.t 103), (.t 105), (.c (.int .i64 2)), (.c (.int .i64 2))], none⟩),
 (6, ⟨(some 100), .mv (.t 106), none⟩),
 (7, ⟨(some 107), .ext (.t 100) 0, none⟩),
 (9, ⟨(some 16), .born 2 (.new [.int .i64 0, .int .i64 0, .int .i64 0, .lit (.slice none 0 0), .lit (.slice none 0 0)]), none⟩),
 (10, ⟨none, .st 5 (.t 16) (.t 107), none⟩),
 (8, ⟨(some 108), .ext (.t 100) 1, none⟩),
 (11, ⟨(some 17), .mv (.t 108), none⟩)]
 [[], [], [1], [], [3, 2], [0, 2, 4, 4], [5], [6], [6], [], [9, 7, 5, 0, 1, 2, 3, 4, 5, 6, 7, 9], [8, 10, 0, 1, 2, 3, 4, 5, 6, 7, 8, 9, 10]] 3)
 k5_16

def k5_18 : ACode :=
 .seq (.drawn [
 (0, ⟨(some 92), .ld (some 5) (.t 1), none⟩),
 (1, ⟨(some 93), .born 0 (.bsl 1 1 [.int .i64 0] [(0, (.c (.int .i64 0)))]), none⟩),
 (2, ⟨(some 94), .call 21 [(.t 93)], none⟩),
 (3, ⟨(some 95), .born 1 (.bsl 1 1 [.int .i64 0] [(0, (.c (.int .i64 3)))]), none⟩),
 (4, ⟨(some 96), .call 21 [(.t 95)], none⟩),
 (5, ⟨(some 97), .call 20 [(.t 92), (.t 94), (.t 96), (.c (.int .i64 1)), (.c (.int .i64 60))], none⟩),
 (6, ⟨(some 91), .mv (.t 97), none⟩),
 (7, ⟨(some 98), .ext (.t 91) 0, none⟩),
 (9, ⟨(some 14), .born 2 (.new [.int .i64 0, .int .i64 0, .int .i64 0, .lit (.slice none 0 0), .lit (.slice none 0 0)]), none⟩),
 (10, ⟨none, .st 5 (.t 14) (.t 98), none⟩),
 (8, ⟨(some 99), .ext (.t 91) 1, none⟩),
 (11, ⟨(some 15), .mv (.t 99), none⟩)]
 [[], [], [1], [], [3, 2], [0, 2, 4, 4], [5], [6], [6], [], [9, 7, 5, 0, 1, 2, 3, 4, 5, 6, 7, 9], [8, 10, 0, 1, 2, 3, 4, 5, 6, 7, 8, 9, 10]] 3)
 k5_17

def k5_19 : ACode :=
 .seq (.drawn [
 (0, ⟨(some 83), .ld (some 5) (.t 1), none⟩),
 (1, ⟨(some 84), .born 0 (.bsl 1 1 [.int .i64 0] [(0, (.c (.int .i64 0)))]), none⟩),
 (2, ⟨(some 85), .call 21 [(.t 84)], none⟩),
 (3, ⟨(some 86), .born 1 (.bsl 1 1 [.int .i64 0] [(0, (.c (.int .i64 9)))]), none⟩),
 (4, ⟨(some 87), .call 21 [(.t 86)], none⟩),
 (5, ⟨(some 88), .call 20 [(.t 83), (.t 85), (.t 87), (.c (.int .i64 4)), (.c (.int .i64 0))], none⟩),
 (6, ⟨(some 82), .mv (.t 88), none⟩),
 (7, ⟨(some 89), .ext (.t 82) 0, none⟩),
 (9, ⟨(some 12), .born 2 (.new [.int .i64 0, .int .i64 0, .int .i64 0, .lit (.slice none 0 0), .lit (.slice none 0 0)]), none⟩),
 (10, ⟨none, .st 5 (.t 12) (.t 89), none⟩),
 (8, ⟨(some 90), .ext (.t 82) 1, none⟩),
 (11, ⟨(some 13), .mv (.t 90), none⟩)]
 [[], [], [1], [], [3, 2], [0, 2, 4, 4], [5], [6], [6], [], [9, 7, 5, 0, 1, 2, 3, 4, 5, 6, 7, 9], [8, 10, 0, 1, 2, 3, 4, 5, 6, 7, 8, 9, 10]] 3)
 k5_18

def k5_20 : ACode :=
 .seq (.drawn [
 (0, ⟨(some 74), .ld (some 5) (.t 1), none⟩),
 (1, ⟨(some 75), .born 0 (.bsl 1 1 [.int .i64 0] [(0, (.c (.int .i64 0)))]), none⟩),
 (2, ⟨(some 76), .call 21 [(.t 75)], none⟩),
 (3, ⟨(some 77), .born 1 (.bsl 1 1 [.int .i64 0] [(0, (.c (.int .i64 3)))]), none⟩),
 (4, ⟨(some 78), .call 21 [(.t 77)], none⟩),
 (5, ⟨(some 79), .call 20 [(.t 74), (.t 76), (.t 78), (.c (.int .i64 2)), (.c (.int .i64 5))], none⟩),
 (6, ⟨(some 73), .mv (.t 79), none⟩),
 (7, ⟨(some 80), .ext (.t 73) 0, none⟩),
 (9, ⟨(some 10), .born 2 (.new [.int .i64 0, .int .i64 0, .int .i64 0, .lit (.slice none 0 0), .lit (.slice none 0 0)]), none⟩),
 (10, ⟨none, .st 5 (.t 10) (.t 80), none⟩),
 (8, ⟨(some 81), .ext (.t 73) 1, none⟩),
 (11, ⟨(some 11), .mv (.t 81), none⟩)]
 [[], [], [1], [], [3, 2], [0, 2, 4, 4], [5], [6], [6], [], [9, 7, 5, 0, 1, 2, 3, 4, 5, 6, 7, 9], [8, 10, 0, 1, 2, 3, 4, 5, 6, 7, 8, 9, 10]] 3)
 k5_19

def k5_21 : ACode :=
 .seq (.drawn [
 (0, ⟨(some 65), .ld (some 5) (.t 1), none⟩),
 (1, ⟨(some 66), .born 0 (.bsl 1 1 [.int .i64 0] [(0, (.c (.int .i64 0)))]), none⟩),
 (2, ⟨(some 67), .call 21 [(.t 66)], none⟩),
 (3, ⟨(some 68), .born 1 (.bsl 1 1 [.int .i64 0] [(0, (.c (.int .i64 3)))]), none⟩),
 (4, ⟨(some 69), .call 21 [(.t 68)], none⟩),
 (5, ⟨(some 70), .call 20 [(.t 65), (.t 67), (.t 69), (.c (.int .i64 1)), (.c (.int .i64 65))], none⟩),
 (6, ⟨(some 64), .mv (.t 70), none⟩),
 (7, ⟨(some 71), .ext (.t 64) 0, none⟩),
 (9, ⟨(some 8), .born 2 (.new [.int .i64 0, .int .i64 0, .int .i64 0, .lit (.slice none 0 0), .lit (.slice none 0 0)]), none⟩),
 (10, ⟨none, .st 5 (.t 8) (.t 71), none⟩),
 (8, ⟨(some 72), .ext (.t 64) 1, none⟩),
 (11, ⟨(some 9), .mv (.t 72), none⟩)]
 [[], [], [1], [], [3, 2], [0, 2, 4, 4], [5], [6], [6], [], [9, 7, 5, 0, 1, 2, 3, 4, 5, 6, 7, 9], [8, 10, 0, 1, 2, 3, 4, 5, 6, 7, 8, 9, 10]] 3)
 k5_20

def k5_22 : ACode :=
 .seq (.drawn [
 (0, ⟨(some 56), .ld (some 5) (.t 1), none⟩),
 (1, ⟨(some 57), .born 0 (.bsl 1 1 [.int .i64 0] [(0, (.c (.int .i64 0)))]), none⟩),
 (2, ⟨(some 58), .call 21 [(.t 57)], none⟩),
 (3, ⟨(some 59), .born 1 (.bsl 1 1 [.int .i64 0] [(0, (.c (.int .i64 1)))]), none⟩),
 (4, ⟨(some 60), .call 21 [(.t 59)], none⟩),
 (5, ⟨(some 61), .call 20 [(.t 56), (.t 58), (.t 60), (.c (.int .i64 4)), (.c (.int .i64 0))], none⟩),
 (6, ⟨(some 55), .mv (.t 61), none⟩),
 (7, ⟨(some 62), .ext (.t 55) 0, none⟩),
 (9, ⟨(some 6), .born 2 (.new [.int .i64 0, .int .i64 0, .int .i64 0, .lit (.slice none 0 0), .lit (.slice none 0 0)]), none⟩),
 (10, ⟨none, .st 5 (.t 6) (.t 62), none⟩),
 (8, ⟨(some 63), .ext (.t 55) 1, none⟩),
 (11, ⟨(some 7), .mv (.t 63), none⟩)]
 [[], [], [1], [], [3, 2], [0, 2, 4, 4], [5], [6], [6], [], [9, 7, 5, 0, 1, 2, 3, 4, 5, 6, 7, 9], [8, 10, 0, 1, 2, 3, 4, 5, 6, 7, 8, 9, 10]] 3)
 k5_21

def k5_23 : ACode :=
 .seq (.drawn [
 (0, ⟨(some 47), .ld (some 5) (.t 1), none⟩),
 (1, ⟨(some 48), .born 0 (.bsl 1 1 [.int .i64 0] [(0, (.c (.int .i64 4)))]), none⟩),
 (2, ⟨(some 49), .call 21 [(.t 48)], none⟩),
 (3, ⟨(some 50), .born 1 (.bsl 1 1 [.int .i64 0] [(0, (.c (.int .i64 3)))]), none⟩),
 (4, ⟨(some 51), .call 21 [(.t 50)], none⟩),
 (5, ⟨(some 52), .call 20 [(.t 47), (.t 49), (.t 51), (.c (.int .i64 4)), (.c (.int .i64 0))], none⟩),
 (6, ⟨(some 46), .mv (.t 52), none⟩),
 (7, ⟨(some 53), .ext (.t 46) 0, none⟩),
 (9, ⟨(some 4), .born 2 (.new [.int .i64 0, .int .i64 0, .int .i64 0, .lit (.slice none 0 0), .lit (.slice none 0 0)]), none⟩),
 (10, ⟨none, .st 5 (.t 4) (.t 53), none⟩),
 (8, ⟨(some 54), .ext (.t 46) 1, none⟩),
 (11, ⟨(some 5), .mv (.t 54), none⟩)]
 [[], [], [1], [], [3, 2], [0, 2, 4, 4], [5], [6], [6], [], [9, 7, 5, 0, 1, 2, 3, 4, 5, 6, 7, 9], [8, 10, 0, 1, 2, 3, 4, 5, 6, 7, 8, 9, 10]] 3)
 k5_22

def k5_24 : ACode :=
 .seq (.drawn [
 (0, ⟨(some 38), .ld (some 5) (.t 1), none⟩),
 (1, ⟨(some 39), .born 0 (.bsl 1 1 [.int .i64 0] [(0, (.c (.int .i64 1)))]), none⟩),
 (2, ⟨(some 40), .call 21 [(.t 39)], none⟩),
 (3, ⟨(some 41), .born 1 (.bsl 1 1 [.int .i64 0] [(0, (.c (.int .i64 3)))]), none⟩),
 (4, ⟨(some 42), .call 21 [(.t 41)], none⟩),
 (5, ⟨(some 43), .call 20 [(.t 38), (.t 40), (.t 42), (.c (.int .i64 4)), (.c (.int .i64 0))], none⟩),
 (6, ⟨(some 37), .mv (.t 43), none⟩),
 (7, ⟨(some 44), .ext (.t 37) 0, none⟩),
 (9, ⟨(some 2), .born 2 (.new [.int .i64 0, .int .i64 0, .int .i64 0, .lit (.slice none 0 0), .lit (.slice none 0 0)]), none⟩),
 (10, ⟨none, .st 5 (.t 2) (.t 44), none⟩),
 (8, ⟨(some 45), .ext (.t 37) 1, none⟩),
 (11, ⟨(some 3), .mv (.t 45), none⟩)]
 [[], [], [1], [], [3, 2], [0, 2, 4, 4], [5], [6], [6], [], [9, 7, 5, 0, 1, 2, 3, 4, 5, 6, 7, 9], [8, 10, 0, 1, 2, 3, 4, 5, 6, 7, 8, 9, 10]] 3)
 k5_23

def k5_25 : ACode :=
 .seq (.region [
 ⟨(some 36), .call 19 [], none⟩,
 ⟨(some 1), .new [.int .i64 0, .int .i64 0, .int .i64 0, .lit (.slice none 0 0), .lit (.slice none 0 0)], none⟩,
 ⟨none, .st 5 (.t 1) (.t 36), none⟩])
 k5_24

def k5_26 : ACode :=
 .seq (.seq (.region [
 ⟨(some 34), .call 18 [], none⟩,
 ⟨(some 35), .un .not (.t 34), none⟩])
 k5_0)
 k5_25

def c5 : ACode :=
 .seq (.region [
 ⟨(some 0), .mv (.c (.bool false)), none⟩])
 k5_26
theorem ok5 : fnOk Try.prog 5 c5 313 [.t 0] = true := by kernel_rfl

def k6_0 : ACode :=
 .cond (.t 17)
 (.seq (.region [
 ⟨(some 6), .mv (.c (.bool false)), none⟩])
 (.ret))
 (.skip)

def k6_1 : ACode :=
 .cond (.t 30)
 (.seq (.region [
 ⟨(some 6), .mv (.c (.bool true)), none⟩])
 (.ret))
 (.skip)

def k6_2 : ACode :=
 .seq (.region [
 ⟨(some 41), .ld (some 5) (.t 7), none⟩,
 ⟨(some 42), .ld (some 5) (.t 3), none⟩,
 ⟨(some 43), .call 17 [(.t 41), (.t 42)], none⟩,
 ⟨(some 6), .mv (.t 43), none⟩])
 (.ret)

def k6_3 : ACode :=
 .cond (.t 84)
 (.seq (.region [
 ⟨(some 6), .mv (.c (.bool false)), none⟩])
 (.ret))
 (.skip)

def k6_4 : ACode :=
 .seq (.region [
 ⟨(some 107), .mv (.t 12), none⟩,
 ⟨(some 108), .bin .add (.t 107) (.c (.int .i64 1)), none⟩,
 ⟨(some 12), .mv (.t 108), none⟩])
 (.exit 1)

def k6_5 : ACode :=
 .cond (.t 140)
 (.seq (.region [
 ⟨(some 6), .mv (.c (.bool false)), none⟩])
 (.ret))
 (.skip)

def k6_6 : ACode :=
 .seq (.seq (.drawn [
 (0, ⟨(some 109), .fld 4 (.t 3), none⟩),
 (1, ⟨(some 110), .ld none (.t 109), none⟩),
 (2, ⟨(some 111), .mv (.t 13), none⟩),
 (3, ⟨(some 112), .ixs 13 (.t 110) (.t 111), none⟩),
 (4, ⟨(some 113), .fld 0 (.t 112), none⟩),
 (5, ⟨(some 114), .ld none (.t 113), none⟩),
 (6, ⟨(some 115), .bin .neq (.t 114) (.c (.int .i64 1)), none⟩),
 (7, ⟨(some 116), .mv (.t 115), none⟩),
 (8, ⟨(some 117), .fld 4 (.t 7), (some (116, false))⟩),
 (9, ⟨(some 118), .ld none (.t 117), (some (116, false))⟩),
 (10, ⟨(some 119), .mv (.t 13), (some (116, false))⟩),
 (11, ⟨(some 120), .ixs 13 (.t 118) (.t 119), (some (116, false))⟩),
 (12, ⟨(some 121), .fld 4 (.t 120), (some (116, false))⟩),
 (13, ⟨(some 122), .ld none (.t 121), (some (116, false))⟩),
 (14, ⟨(some 123), .mv (.t 9), (some (116, false))⟩),
 (15, ⟨(some 124), .bin .lss (.t 122) (.t 123), (some (116, false))⟩),
 (16, ⟨(some 125), .pick (.t 116) (.c (.bool true)) (.t 124), none⟩),
 (17, ⟨(some 126), .mv (.t 125), none⟩),
 (18, ⟨(some 127), .fld 4 (.t 7), (some (126, false))⟩),
 (19, ⟨(some 128), .ld none (.t 127), (some (126, false))⟩),
 (20, ⟨(some 129), .mv (.t 13), (some (126, false))⟩),
 (21, ⟨(some 130), .ixs 13 (.t 128) (.t 129), (some (126, false))⟩),
 (22, ⟨(some 131), .fld 4 (.t 130), (some (126, false))⟩),
 (23, ⟨(some 132), .ld none (.t 131), (some (126, false))⟩),
 (24, ⟨(some 133), .fld 4 (.t 7), (some (126, false))⟩),
 (25, ⟨(some 134), .ld none (.t 133), (some (126, false))⟩),
 (26, ⟨(some 135), .mv (.t 13), (some (126, false))⟩),
 (27, ⟨(some 136), .ixs 13 (.t 134) (.t 135), (some (126, false))⟩),
 (28, ⟨(some 137), .fld 3 (.t 136), (some (126, false))⟩),
 (29, ⟨(some 138), .ld none (.t 137), (some (126, false))⟩),
 (30, ⟨(some 139), .bin .gtr (.t 132) (.t 138), (some (126, false))⟩),
 (31, ⟨(some 140), .pick (.t 126) (.c (.bool true)) (.t 139), none⟩)]
 [[], [0], [], [1, 2], [3], [4], [5], [6], [7], [8, 7], [7], [9, 10, 7], [11, 7], [12, 7], [7], [13, 14, 7], [7, 15], [16, 7], [17], [18, 17], [17], [19, 20, 17], [21, 17], [22, 17], [17], [24, 17], [17], [25, 26, 17], [27, 17], [28, 17], [23, 29, 17], [17, 30]] 0)
 k6_5)
 (.region [
 ⟨(some 141), .mv (.t 11), none⟩,
 ⟨(some 142), .bin .add (.t 141) (.c (.int .i64 1)), none⟩,
 ⟨(some 11), .mv (.t 142), none⟩])

def k6_7 : ACode :=
 .seq (.seq (.region [
 ⟨(some 103), .mv (.t 13), none⟩,
 ⟨(some 104), .fld 2 (.t 8), none⟩,
 ⟨(some 105), .ld none (.t 104), none⟩,
 ⟨(some 106), .bin .eql (.t 103) (.t 105), none⟩])
 (.cond (.t 106)
 k6_4
 (.skip)))
 k6_6

def k6_8 : ACode :=
 .seq (.block 1 (
 .seq (.seq (.drawn [
 (0, ⟨(some 92), .fld 4 (.t 7), none⟩),
 (1, ⟨(some 93), .ld none (.t 92), none⟩),
 (2, ⟨(some 94), .mv (.t 13), none⟩),
 (3, ⟨(some 95), .ixs 13 (.t 93) (.t 94), none⟩),
 (4, ⟨(some 96), .ld (some 13) (.t 95), none⟩),
 (5, ⟨(some 97), .fld 4 (.t 3), none⟩),
 (6, ⟨(some 98), .ld none (.t 97), none⟩),
 (7, ⟨(some 99), .mv (.t 13), none⟩),
 (8, ⟨(some 100), .ixs 13 (.t 98) (.t 99), none⟩),
 (9, ⟨(some 101), .ld (some 13) (.t 100), none⟩),
 (10, ⟨(some 102), .eqs false [0, 0, 0, 0, 0, 0, 0, 1, 0, 0, 0, 0, 0] (.t 96) (.t 101), none⟩)]
 [[], [0], [], [1, 2], [3], [], [5], [], [6, 7], [8], [4, 9]] 0)
 (.cond (.t 102)
 (.exit 1)
 (.skip)))
 k6_7))
 (.region [
 ⟨(some 90), .mv (.t 13), none⟩,
 ⟨(some 91), .bin .add (.t 90) (.c (.int .i64 1)), none⟩,
 ⟨(some 13), .mv (.t 91), none⟩])

def b6_9 : ACode :=
 .seq (.seq (.region [
 ⟨(some 85), .mv (.t 13), none⟩,
 ⟨(some 86), .fld 4 (.t 3), none⟩,
 ⟨(some 87), .ld none (.t 86), none⟩,
 ⟨(some 88), .len false (.t 87), none⟩,
 ⟨(some 89), .bin .lss (.t 85) (.t 88), none⟩])
 (.cond (.t 89)
 (.skip)
 (.exit 0)))
 k6_8

def k6_10 : ACode :=
 .cond (.t 160)
 (.region [
 ⟨(some 161), .mv (.t 14), none⟩,
 ⟨(some 162), .bin .add (.t 161) (.c (.int .i64 1)), none⟩,
 ⟨(some 14), .mv (.t 162), none⟩])
 (.skip)

def k6_11 : ACode :=
 .seq (.block 3 (
 .seq (.drawn [
 (0, ⟨(some 150), .fld 3 (.t 7), none⟩),
 (1, ⟨(some 151), .ld none (.t 150), none⟩),
 (2, ⟨(some 152), .mv (.t 15), none⟩),
 (3, ⟨(some 153), .ixs 5 (.t 151) (.t 152), none⟩),
 (4, ⟨(some 154), .ld (some 5) (.t 153), none⟩),
 (5, ⟨(some 155), .fld 3 (.t 3), none⟩),
 (6, ⟨(some 156), .ld none (.t 155), none⟩),
 (7, ⟨(some 157), .mv (.t 15), none⟩),
 (8, ⟨(some 158), .ixs 5 (.t 156) (.t 157), none⟩),
 (9, ⟨(some 159), .ld (some 5) (.t 158), none⟩),
 (10, ⟨(some 160), .eqs true [0, 0, 0, 0, 0] (.t 154) (.t 159), none⟩)]
 [[], [0], [], [1, 2], [3], [], [5], [], [6, 7], [8], [4, 9]] 0)
 k6_10))
 (.region [
 ⟨(some 148), .mv (.t 15), none⟩,
 ⟨(some 149), .bin .add (.t 148) (.c (.int .i64 1)), none⟩,
 ⟨(some 15), .mv (.t 149), none⟩])

def b6_12 : ACode :=
 .seq (.seq (.region [
 ⟨(some 143), .mv (.t 15), none⟩,
 ⟨(some 144), .fld 3 (.t 3), none⟩,
 ⟨(some 145), .ld none (.t 144), none⟩,
 ⟨(some 146), .len false (.t 145), none⟩,
 ⟨(some 147), .bin .lss (.t 143) (.t 146), none⟩])
 (.cond (.t 147)
 (.skip)
 (.exit 2)))
 k6_11

def k6_13 : ACode :=
 .seq (.drawn [
 (0, ⟨(some 163), .mv (.t 11), none⟩),
 (1, ⟨(some 164), .bin .leq (.t 163) (.c (.int .i64 1)), none⟩),
 (2, ⟨(some 165), .mv (.t 164), none⟩),
 (3, ⟨(some 166), .mv (.t 12), (some (165, true))⟩),
 (4, ⟨(some 167), .bin .eql (.t 166) (.c (.int .i64 1)), (some (165, true))⟩),
 (5, ⟨(some 168), .pick (.t 165) (.t 167) (.c (.bool false)), none⟩),
 (6, ⟨(some 169), .mv (.t 168), none⟩),
 (7, ⟨(some 170), .mv (.t 14), (some (169, true))⟩),
 (8, ⟨(some 171), .bin .eql (.t 170) (.c (.int .i64 1)), (some (169, true))⟩),
 (9, ⟨(some 172), .pick (.t 169) (.t 171) (.c (.bool false)), none⟩),
 (10, ⟨(some 173), .mv (.t 172), none⟩),
 (11, ⟨(some 174), .ld (some 5) (.t 7), (some (173, true))⟩),
 (12, ⟨(some 175), .call 28 [(.t 174)], (some (173, true))⟩),
 (13, ⟨(some 176), .call 27 [(.t 175)], (some (173, true))⟩),
 (14, ⟨(some 177), .pick (.t 173) (.t 176) (.c (.bool false)), none⟩),
 (15, ⟨(some 178), .mv (.t 177), none⟩),
 (16, ⟨(some 179), .ld (some 5) (.t 3), (some (178, true))⟩),
 (18, ⟨(some 181), .fld 2 (.t 8), (some (178, true))⟩),
 (19, ⟨(some 182), .ld none (.t 181), (some (178, true))⟩),
 (17, ⟨(some 180), .call 29 [(.t 179)], (some (178, true))⟩),
 (20, ⟨(some 183), .bin .eql (.t 180) (.t 182), (some (178, true))⟩),
 (21, ⟨(some 184), .pick (.t 178) (.t 183) (.c (.bool false)), none⟩),
 (22, ⟨(some 6), .mv (.t 184), none⟩)]
 [[], [0], [1], [2], [3, 2], [2, 4], [5, 2], [6], [7, 6], [6, 8], [9, 6], [10], [11, 10, 10], [12, 12, 10], [10, 13], [14, 13], [15], [16, 15, 15], [15], [18, 15], [17, 19, 15], [15, 20], [21, 17, 0, 1, 2, 3, 4, 5, 6, 7, 8, 9, 10, 11, 12, 13, 14, 15, 16, 17, 18, 19, 20, 21]] 0)
 (.ret)

def k6_14 : ACode :=
 .seq (.seq (.region [
 ⟨(some 15), .mv (.c (.int .i64 0)), none⟩])
 (.block 2 (
 .loop b6_12)))
 k6_13

def k6_15 : ACode :=
 .seq (.seq (.region [
 ⟨(some 13), .mv (.c (.int .i64 0)), none⟩])
 (.block 0 (
 .loop b6_9)))
 (.seq (.region [
 ⟨(some 14), .mv (.c (.int .i64 0)), none⟩])
 k6_14)

def k6_16 : ACode :=
 .seq (.seq (.region [
 ⟨(some 52), .mv (.t 10), none⟩,
 ⟨(some 53), .un .not (.t 52), none⟩,
 ⟨(some 54), .mv (.t 53), none⟩,
 ⟨(some 55), .fld 4 (.t 7), (some (54, false))⟩,
 ⟨(some 56), .ld none (.t 55), (some (54, false))⟩,
 ⟨(some 57), .len false (.t 56), (some (54, false))⟩,
 ⟨(some 58), .fld 4 (.t 3), (some (54, false))⟩,
 ⟨(some 59), .ld none (.t 58), (some (54, false))⟩,
 ⟨(some 60), .len false (.t 59), (some (54, false))⟩,
 ⟨(some 61), .bin .neq (.t 57) (.t 60), (some (54, false))⟩,
 ⟨(some 62), .pick (.t 54) (.c (.bool true)) (.t 61), none⟩,
 ⟨(some 63), .mv (.t 62), none⟩,
 ⟨(some 64), .fld 3 (.t 7), (some (63, false))⟩,
 ⟨(some 65), .ld none (.t 64), (some (63, false))⟩,
 ⟨(some 66), .len false (.t 65), (some (63, false))⟩,
 ⟨(some 67), .fld 3 (.t 3), (some (63, false))⟩,
 ⟨(some 68), .ld none (.t 67), (some (63, false))⟩,
 ⟨(some 69), .len false (.t 68), (some (63, false))⟩,
 ⟨(some 70), .bin .neq (.t 66) (.t 69), (some (63, false))⟩,
 ⟨(some 71), .pick (.t 63) (.c (.bool true)) (.t 70), none⟩,
 ⟨(some 72), .mv (.t 71), none⟩,
 ⟨(some 73), .fld 2 (.t 8), (some (72, false))⟩,
 ⟨(some 74), .ld none (.t 73), (some (72, false))⟩,
 ⟨(some 75), .bin .lss (.t 74) (.c (.int .i64 0)), (some (72, false))⟩,
 ⟨(some 76), .pick (.t 72) (.c (.bool true)) (.t 75), none⟩,
 ⟨(some 77), .mv (.t 76), none⟩,
 ⟨(some 78), .fld 2 (.t 8), (some (77, false))⟩,
 ⟨(some 79), .ld none (.t 78), (some (77, false))⟩,
 ⟨(some 80), .fld 4 (.t 3), (some (77, false))⟩,
 ⟨(some 81), .ld none (.t 80), (some (77, false))⟩,
 ⟨(some 82), .len false (.t 81), (some (77, false))⟩,
 ⟨(some 83), .bin .geq (.t 79) (.t 82), (some (77, false))⟩,
 ⟨(some 84), .pick (.t 77) (.c (.bool true)) (.t 83), none⟩])
 k6_3)
 (.seq (.region [
 ⟨(some 11), .mv (.c (.int .i64 0)), none⟩,
 ⟨(some 12), .mv (.c (.int .i64 0)), none⟩])
 k6_15)

def k6_17 : ACode :=
 .seq (.region [
 ⟨(some 45), .fld 3 (.t 5), none⟩,
 ⟨(some 46), .ld none (.t 45), none⟩,
 ⟨(some 47), .fld 4 (.t 5), none⟩,
 ⟨(some 48), .ld none (.t 47), none⟩,
 ⟨(some 49), .call 26 [(.t 46), (.t 48)], none⟩,
 ⟨(some 44), .mv (.t 49), none⟩,
 ⟨(some 50), .ext (.t 44) 0, none⟩,
 ⟨(some 51), .ext (.t 44) 1, none⟩,
 ⟨(some 9), .mv (.t 50), none⟩,
 ⟨(some 10), .mv (.t 51), none⟩])
 k6_16

def k6_18 : ACode :=
 .seq (.seq (.region [
 ⟨(some 38), .fld 0 (.t 8), none⟩,
 ⟨(some 39), .ld none (.t 38), none⟩,
 ⟨(some 40), .bin .neq (.t 39) (.c (.int .i64 0)), none⟩])
 (.cond (.t 40)
 k6_2
 (.skip)))
 k6_17

def k6_19 : ACode :=
 .seq (.region [
 ⟨(some 32), .ld (some 5) (.t 3), none⟩,
 ⟨(some 33), .mv (.t 1), none⟩,
 ⟨(some 34), .ld (some 6) (.t 5), none⟩,
 ⟨(some 35), .call 23 [(.t 32), (.t 33), (.t 34)], none⟩,
 ⟨(some 31), .mv (.t 35), none⟩,
 ⟨(some 36), .ext (.t 31) 0, none⟩,
 ⟨(some 37), .ext (.t 31) 1, none⟩,
 ⟨(some 7), .new [.int .i64 0, .int .i64 0, .int .i64 0, .lit (.slice none 0 0), .lit (.slice none 0 0)], none⟩,
 ⟨(some 8), .new [.int .i64 0, .int .u64 0, .int .i64 0], none⟩,
 ⟨none, .st 5 (.t 7) (.t 36), none⟩,
 ⟨none, .st 3 (.t 8) (.t 37), none⟩])
 k6_18

def k6_20 : ACode :=
 .seq (.seq (.region [
 ⟨(some 18), .ld (some 5) (.t 3), none⟩,
 ⟨(some 19), .ld (some 6) (.t 5), none⟩,
 ⟨(some 20), .call 25 [(.t 18), (.t 19)], none⟩,
 ⟨(some 21), .mv (.t 20), none⟩,
 ⟨(some 22), .ld (some 5) (.t 3), (some (21, false))⟩,
 ⟨(some 23), .call 15 [(.t 22)], (some (21, false))⟩,
 ⟨(some 24), .un .not (.t 23), (some (21, false))⟩,
 ⟨(some 25), .pick (.t 21) (.c (.bool true)) (.t 24), none⟩,
 ⟨(some 26), .mv (.t 25), none⟩,
 ⟨(some 27), .fld 0 (.t 5), (some (26, false))⟩,
 ⟨(some 28), .ld none (.t 27), (some (26, false))⟩,
 ⟨(some 29), .bin .neq (.t 28) (.c (.int .i64 1)), (some (26, false))⟩,
 ⟨(some 30), .pick (.t 26) (.c (.bool true)) (.t 29), none⟩])
 k6_1)
 k6_19

def k6_21 : ACode :=
 .seq (.seq (.region [
 ⟨(some 16), .call 18 [], none⟩,
 ⟨(some 17), .un .not (.t 16), none⟩])
 k6_0)
 k6_20

def c6 : ACode :=
 .seq (.region [
 ⟨(some 3), .box (.t 0), none⟩,
 ⟨(some 5), .box (.t 2), none⟩,
 ⟨(some 6), .mv (.c (.bool false)), none⟩])
 k6_21
theorem ok6 : fnOk Try.prog 6 c6 185 [.t 6] = true := by kernel_rfl

def k18_0 : ACode :=
 .seq (.region [
 ⟨(some 13), .ld (some 3) (.t 2), none⟩,
 ⟨(some 14), .build [.int .i64 0, .int .u64 0, .int .i64 0] [(2, 1, (.c (.int .i64 4)))], none⟩,
 ⟨(some 15), .eqs false [0, 0, 0] (.t 13) (.t 14), none⟩,
 ⟨(some 16), .mv (.t 15), none⟩,
 ⟨(some 17), .fld 4 (.t 1), (some (16, true))⟩,
 ⟨(some 18), .ld none (.t 17), (some (16, true))⟩,
 ⟨(some 19), .len false (.t 18), (some (16, true))⟩,
 ⟨(some 20), .bin .eql (.t 19) (.c (.int .i64 16)), (some (16, true))⟩,
 ⟨(some 21), .pick (.t 16) (.t 20) (.c (.bool false)), none⟩,
 ⟨(some 22), .mv (.t 21), none⟩,
 ⟨(some 23), .fld 4 (.t 1), (some (22, true))⟩,
 ⟨(some 24), .ld none (.t 23), (some (22, true))⟩,
 ⟨(some 25), .ixs 13 (.t 24) (.c (.int .i64 4)), (some (22, true))⟩,
 ⟨(some 26), .fld 0 (.t 25), (some (22, true))⟩,
 ⟨(some 27), .ld none (.t 26), (some (22, true))⟩,
 ⟨(some 28), .bin .eql (.t 27) (.c (.int .i64 4)), (some (22, true))⟩,
 ⟨(some 29), .pick (.t 22) (.t 28) (.c (.bool false)), none⟩,
 ⟨(some 30), .mv (.t 29), none⟩,
 ⟨(some 31), .fld 3 (.t 1), (some (30, true))⟩,
 ⟨(some 32), .ld none (.t 31), (some (30, true))⟩,
 ⟨(some 33), .len false (.t 32), (some (30, true))⟩,
 ⟨(some 34), .bin .eql (.t 33) (.c (.int .i64 32)), (some (30, true))⟩,
 ⟨(some 35), .pick (.t 30) (.t 34) (.c (.bool false)), none⟩,
 ⟨(some 36), .mv (.t 35), none⟩,
 ⟨(some 37), .fld 3 (.t 1), (some (36, true))⟩,
 ⟨(some 38), .ld none (.t 37), (some (36, true))⟩,
 ⟨(some 39), .ixs 5 (.t 38) (.c (.int .i64 3)), (some (36, true))⟩,
 ⟨(some 40), .ld (some 5) (.t 39), (some (36, true))⟩,
 ⟨(some 41), .build [.int .i64 0, .int .i64 0, .int .i64 0, .int .i64 0] [(0, 1, (.c (.int .i64 4))), (1, 1, (.c (.int .i64 4))), (2, 1, (.c (.int .i64 7)))], (some (36, true))⟩,
 ⟨(some 42), .build [.int .i64 0, .int .i64 0, .int .i64 0, .int .i64 0, .int .i64 0] [(0, 4, (.t 41)), (4, 1, (.c (.int .i64 0)))], (some (36, true))⟩,
 ⟨(some 43), .eqs false [0, 0, 0, 0, 0] (.t 40) (.t 42), (some (36, true))⟩,
 ⟨(some 44), .pick (.t 36) (.t 43) (.c (.bool false)), none⟩,
 ⟨(some 0), .mv (.t 44), none⟩])
 (.ret)

def k18_1 : ACode :=
 .seq (.region [
 ⟨(some 4), .call 19 [], none⟩,
 ⟨(some 5), .bsl 1 1 [.int .i64 0] [(0, (.c (.int .i64 0)))], none⟩,
 ⟨(some 6), .call 21 [(.t 5)], none⟩,
 ⟨(some 7), .bsl 1 1 [.int .i64 0] [(0, (.c (.int .i64 3)))], none⟩,
 ⟨(some 8), .call 21 [(.t 7)], none⟩,
 ⟨(some 9), .build [.int .i64 0, .lit (.slice none 0 0), .lit (.slice none 0 0), .int .i64 0, .int .i64 0, .int .u64 0] [(0, 1, (.c (.int .i64 1))), (1, 1, (.t 6)), (2, 1, (.t 8)), (3, 1, (.c (.int .i64 4)))], none⟩,
 ⟨(some 10), .call 23 [(.t 4), (.c (.int .i64 0)), (.t 9)], none⟩,
 ⟨(some 3), .mv (.t 10), none⟩,
 ⟨(some 11), .ext (.t 3) 0, none⟩,
 ⟨(some 12), .ext (.t 3) 1, none⟩,
 ⟨(some 1), .new [.int .i64 0, .int .i64 0, .int .i64 0, .lit (.slice none 0 0), .lit (.slice none 0 0)], none⟩,
 ⟨(some 2), .new [.int .i64 0, .int .u64 0, .int .i64 0], none⟩,
 ⟨none, .st 5 (.t 1) (.t 11), none⟩,
 ⟨none, .st 3 (.t 2) (.t 12), none⟩])
 k18_0

def c18 : ACode :=
 .seq (.region [
 ⟨(some 0), .mv (.c (.bool false)), none⟩])
 k18_1
theorem ok18 : fnOk Try.prog 18 c18 45 [.t 0] = true := by kernel_rfl

def k19_0 : ACode :=
 .seq (.region [
 ⟨(some 4), .call 54 [], none⟩,
 ⟨(some 5), .call 53 [(.t 4), (.c (.int .i64 64))], none⟩,
 ⟨(some 3), .mv (.t 5), none⟩,
 ⟨(some 6), .ext (.t 3) 0, none⟩,
 ⟨(some 7), .ext (.t 3) 1, none⟩,
 ⟨(some 1), .new [.int .i64 0, .int .i64 0, .int .i64 0, .lit (.slice none 0 0), .lit (.slice none 0 0)], none⟩,
 ⟨none, .st 5 (.t 1) (.t 6), none⟩,
 ⟨(some 2), .mv (.t 7), none⟩])
 (.seq (.region [
 ⟨(some 8), .ld (some 5) (.t 1), none⟩,
 ⟨none, .st 5 (.t 0) (.t 8), none⟩])
 (.ret))

def c19 : ACode :=
 .seq (.region [
 ⟨(some 0), .new [.int .i64 0, .int .i64 0, .int .i64 0, .lit (.slice none 0 0), .lit (.slice none 0 0)], none⟩])
 k19_0
theorem ok19 : fnOk Try.prog 19 c19 9 [.c 0 (some 5)] = true := by kernel_rfl

def k20_0 : ACode :=
 .seq (.drawn [
 (0, ⟨(some 24), .ld (some 5) (.t 12), none⟩),
 (1, ⟨(some 25), .fld 0 (.t 13), none⟩),
 (2, ⟨(some 26), .ld none (.t 25), none⟩),
 (3, ⟨none, .st 5 (.t 10) (.t 24), none⟩),
 (4, ⟨(some 11), .mv (.t 26), none⟩)]
 [[], [], [1], [0, 0], [2, 3, 0, 1, 2, 3]] 0)
 (.ret)

def k20_1 : ACode :=
 .seq (.region [
 ⟨(some 15), .ld (some 5) (.t 5), none⟩,
 ⟨(some 16), .ld (some 1) (.t 6), none⟩,
 ⟨(some 17), .ld (some 1) (.t 7), none⟩,
 ⟨(some 18), .mv (.t 3), none⟩,
 ⟨(some 19), .mv (.t 4), none⟩,
 ⟨(some 20), .build [.int .i64 0, .lit (.slice none 0 0), .lit (.slice none 0 0), .int .i64 0, .int .i64 0, .int .u64 0] [(0, 1, (.c (.int .i64 1))), (1, 1, (.t 16)), (2, 1, (.t 17)), (3, 1, (.t 18)), (4, 1, (.t 19))], none⟩,
 ⟨(some 21), .call 23 [(.t 15), (.c (.int .i64 0)), (.t 20)], none⟩,
 ⟨(some 14), .mv (.t 21), none⟩,
 ⟨(some 22), .ext (.t 14) 0, none⟩,
 ⟨(some 23), .ext (.t 14) 1, none⟩,
 ⟨(some 12), .new [.int .i64 0, .int .i64 0, .int .i64 0, .lit (.slice none 0 0), .lit (.slice none 0 0)], none⟩,
 ⟨(some 13), .new [.int .i64 0, .int .u64 0, .int .i64 0], none⟩,
 ⟨none, .st 5 (.t 12) (.t 22), none⟩,
 ⟨none, .st 3 (.t 13) (.t 23), none⟩])
 k20_0

def c20 : ACode :=
 .seq (.region [
 ⟨(some 5), .box (.t 0), none⟩,
 ⟨(some 6), .box (.t 1), none⟩,
 ⟨(some 7), .box (.t 2), none⟩,
 ⟨(some 10), .new [.int .i64 0, .int .i64 0, .int .i64 0, .lit (.slice none 0 0), .lit (.slice none 0 0)], none⟩,
 ⟨(some 11), .mv (.c (.int .i64 0)), none⟩])
 k20_1
theorem ok20 : fnOk Try.prog 20 c20 27 [.c 10 (some 5), .t 11] = true := by kernel_rfl

def k21_0 : ACode :=
 .seq (.region [
 ⟨(some 3), .mv (.t 0), none⟩,
 ⟨(some 4), .build [.lit (.slice none 0 0)] [(0, 1, (.t 3))], none⟩,
 ⟨none, .st 1 (.t 2) (.t 4), none⟩])
 (.ret)

def c21 : ACode :=
 .seq (.region [
 ⟨(some 2), .new [.lit (.slice none 0 0)], none⟩])
 k21_0
theorem ok21 : fnOk Try.prog 21 c21 5 [.c 2 (some 1)] = true := by kernel_rfl

def k25_0 : ACode :=
 .seq (.region [
 ⟨(some 5), .fld 3 (.t 2), none⟩,
 ⟨(some 6), .ld none (.t 5), none⟩,
 ⟨(some 7), .len false (.t 6), none⟩,
 ⟨(some 8), .bin .gtr (.t 7) (.c (.int .i64 100)), none⟩,
 ⟨(some 9), .mv (.t 8), none⟩,
 ⟨(some 10), .fld 4 (.t 2), (some (9, false))⟩,
 ⟨(some 11), .ld none (.t 10), (some (9, false))⟩,
 ⟨(some 12), .len false (.t 11), (some (9, false))⟩,
 ⟨(some 13), .bin .gtr (.t 12) (.c (.int .i64 50)), (some (9, false))⟩,
 ⟨(some 14), .pick (.t 9) (.c (.bool true)) (.t 13), none⟩,
 ⟨(some 15), .mv (.t 14), none⟩,
 ⟨(some 16), .fld 1 (.t 3), (some (15, false))⟩,
 ⟨(some 17), .fld 0 (.t 16), (some (15, false))⟩,
 ⟨(some 18), .ld none (.t 17), (some (15, false))⟩,
 ⟨(some 19), .len false (.t 18), (some (15, false))⟩,
 ⟨(some 20), .bin .gtr (.t 19) (.c (.int .i64 10)), (some (15, false))⟩,
 ⟨(some 21), .pick (.t 15) (.c (.bool true)) (.t 20), none⟩,
 ⟨(some 22), .mv (.t 21), none⟩,
 ⟨(some 23), .fld 2 (.t 3), (some (22, false))⟩,
 ⟨(some 24), .fld 0 (.t 23), (some (22, false))⟩,
 ⟨(some 25), .ld none (.t 24), (some (22, false))⟩,
 ⟨(some 26), .len false (.t 25), (some (22, false))⟩,
 ⟨(some 27), .bin .gtr (.t 26) (.c (.int .i64 10)), (some (22, false))⟩,
 ⟨(some 28), .pick (.t 22) (.c (.bool true)) (.t 27), none⟩,
 ⟨(some 4), .mv (.t 28), none⟩])
 (.ret)

def c25 : ACode :=
 .seq (.region [
 ⟨(some 2), .box (.t 0), none⟩,
 ⟨(some 3), .box (.t 1), none⟩,
 ⟨(some 4), .mv (.c (.bool false)), none⟩])
 k25_0
theorem ok25 : fnOk Try.prog 25 c25 29 [.t 4] = true := by kernel_rfl

end Go.Proofs.Ytipigjckoejfpaa.Ax
