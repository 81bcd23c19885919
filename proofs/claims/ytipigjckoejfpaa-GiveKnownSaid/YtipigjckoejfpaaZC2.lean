/- Texts put behind one another: AxCLaw16. Conditions: none. -/
import Derived.Test.YtipigjckoejfpaaAxEnterZ
import Derived.Test.YtipigjckoejfpaaProg
import Derived.KernelRfl
set_option linter.unusedSimpArgs false
set_option linter.unusedVariables false
namespace Go.Proofs.Ytipigjckoejfpaa.Ax
open Go Go.Ax
set_option maxRecDepth 100000

def k7_0 : ACode :=
 .cond (.t 33)
 (.seq (.region [
 ⟨(some 0), .mv (.c (.bool false)), none⟩])
 (.ret))
 (.skip)

def k7_1 : ACode :=
 .cond (.t 164)
 (.seq (.region [
 ⟨(some 0), .mv (.c (.bool false)), none⟩])
 (.ret))
 (.skip)

def k7_2 : ACode :=
 .seq (.region [
 ⟨(some 165), .mv (.t 3), none⟩,
 ⟨(some 166), .bin .eql (.t 165) (.c (.int .i64 7)), none⟩,
 ⟨(some 167), .mv (.t 166), none⟩,
 ⟨(some 168), .mv (.t 5), (some (167, true))⟩,
 ⟨(some 169), .bin .eql (.t 168) (.c (.int .i64 5)), (some (167, true))⟩,
 ⟨(some 170), .pick (.t 167) (.t 169) (.c (.bool false)), none⟩,
 ⟨(some 171), .mv (.t 170), none⟩,
 ⟨(some 172), .mv (.t 7), (some (171, true))⟩,
 ⟨(some 173), .bin .eql (.t 172) (.c (.int .i64 4)), (some (171, true))⟩,
 ⟨(some 174), .pick (.t 171) (.t 173) (.c (.bool false)), none⟩,
 ⟨(some 175), .mv (.t 174), none⟩,
 ⟨(some 176), .mv (.t 9), (some (175, true))⟩,
 ⟨(some 177), .bin .eql (.t 176) (.c (.int .i64 7)), (some (175, true))⟩,
 ⟨(some 178), .pick (.t 175) (.t 177) (.c (.bool false)), none⟩,
 ⟨(some 179), .mv (.t 178), none⟩,
 ⟨(some 180), .mv (.t 11), (some (179, true))⟩,
 ⟨(some 181), .bin .eql (.t 180) (.c (.int .i64 0)), (some (179, true))⟩,
 ⟨(some 182), .pick (.t 179) (.t 181) (.c (.bool false)), none⟩,
 ⟨(some 183), .mv (.t 182), none⟩,
 ⟨(some 184), .fld 3 (.t 10), (some (183, true))⟩,
 ⟨(some 185), .ld none (.t 184), (some (183, true))⟩,
 ⟨(some 186), .ixs 5 (.t 185) (.c (.int .i64 2)), (some (183, true))⟩,
 ⟨(some 187), .ld (some 5) (.t 186), (some (183, true))⟩,
 ⟨(some 188), .build [.int .i64 0, .int .i64 0, .int .i64 0, .int .i64 0] [(0, 1, (.c (.int .i64 3))), (1, 1, (.c (.int .i64 1))), (2, 1, (.c (.int .i64 3))), (3, 1, (.c (.int .i64 9)))], (some (183, true))⟩,
 ⟨(some 189), .build [.int .i64 0, .int .i64 0, .int .i64 0, .int .i64 0, .int .i64 0] [(0, 4, (.t 188)), (4, 1, (.c (.int .i64 1)))], (some (183, true))⟩,
 ⟨(some 190), .eqs false [0, 0, 0, 0, 0] (.t 187) (.t 189), (some (183, true))⟩,
 ⟨(some 191), .pick (.t 183) (.t 190) (.c (.bool false)), none⟩,
 ⟨(some 192), .mv (.t 191), none⟩,
 ⟨(some 193), .mv (.t 13), (some (192, true))⟩,
 ⟨(some 194), .bin .eql (.t 193) (.c (.int .i64 5)), (some (192, true))⟩,
 ⟨(some 195), .pick (.t 192) (.t 194) (.c (.bool false)), none⟩,
 ⟨(some 196), .mv (.t 195), none⟩,
 ⟨(some 197), .mv (.t 15), (some (196, true))⟩,
 ⟨(some 198), .bin .eql (.t 197) (.c (.int .i64 0)), (some (196, true))⟩,
 ⟨(some 199), .pick (.t 196) (.t 198) (.c (.bool false)), none⟩,
 ⟨(some 200), .mv (.t 199), none⟩,
 ⟨(some 201), .fld 3 (.t 14), (some (200, true))⟩,
 ⟨(some 202), .ld none (.t 201), (some (200, true))⟩,
 ⟨(some 203), .ixs 5 (.t 202) (.c (.int .i64 4)), (some (200, true))⟩,
 ⟨(some 204), .fld 4 (.t 203), (some (200, true))⟩,
 ⟨(some 205), .ld none (.t 204), (some (200, true))⟩,
 ⟨(some 206), .bin .eql (.t 205) (.c (.int .i64 (-1))), (some (200, true))⟩,
 ⟨(some 207), .pick (.t 200) (.t 206) (.c (.bool false)), none⟩,
 ⟨(some 208), .mv (.t 207), none⟩,
 ⟨(some 209), .fld 3 (.t 14), (some (208, true))⟩,
 ⟨(some 210), .ld none (.t 209), (some (208, true))⟩,
 ⟨(some 211), .ixs 5 (.t 210) (.c (.int .i64 4)), (some (208, true))⟩,
 ⟨(some 212), .fld 0 (.t 211), (some (208, true))⟩,
 ⟨(some 213), .fld 0 (.t 212), (some (208, true))⟩,
 ⟨(some 214), .ld none (.t 213), (some (208, true))⟩,
 ⟨(some 215), .bin .eql (.t 214) (.c (.int .i64 3)), (some (208, true))⟩,
 ⟨(some 216), .pick (.t 208) (.t 215) (.c (.bool false)), none⟩,
 ⟨(some 217), .mv (.t 216), none⟩,
 ⟨(some 218), .fld 3 (.t 14), (some (217, true))⟩,
 ⟨(some 219), .ld none (.t 218), (some (217, true))⟩,
 ⟨(some 220), .ixs 5 (.t 219) (.c (.int .i64 1)), (some (217, true))⟩,
 ⟨(some 221), .ld (some 5) (.t 220), (some (217, true))⟩,
 ⟨(some 222), .build [.int .i64 0, .int .i64 0, .int .i64 0, .int .i64 0, .int .i64 0] [(4, 1, (.c (.int .i64 (-1))))], (some (217, true))⟩,
 ⟨(some 223), .eqs false [0, 0, 0, 0, 0] (.t 221) (.t 222), (some (217, true))⟩,
 ⟨(some 224), .pick (.t 217) (.t 223) (.c (.bool false)), none⟩,
 ⟨(some 225), .mv (.t 224), none⟩,
 ⟨(some 226), .fld 3 (.t 14), (some (225, true))⟩,
 ⟨(some 227), .ld none (.t 226), (some (225, true))⟩,
 ⟨(some 228), .ixs 5 (.t 227) (.c (.int .i64 2)), (some (225, true))⟩,
 ⟨(some 229), .fld 4 (.t 228), (some (225, true))⟩,
 ⟨(some 230), .ld none (.t 229), (some (225, true))⟩,
 ⟨(some 231), .bin .eql (.t 230) (.c (.int .i64 4)), (some (225, true))⟩,
 ⟨(some 232), .pick (.t 225) (.t 231) (.c (.bool false)), none⟩,
 ⟨(some 233), .mv (.t 232), none⟩,
 ⟨(some 234), .fld 3 (.t 14), (some (233, true))⟩,
 ⟨(some 235), .ld none (.t 234), (some (233, true))⟩,
 ⟨(some 236), .ixs 5 (.t 235) (.c (.int .i64 9)), (some (233, true))⟩,
 ⟨(some 237), .fld 4 (.t 236), (some (233, true))⟩,
 ⟨(some 238), .ld none (.t 237), (some (233, true))⟩,
 ⟨(some 239), .bin .eql (.t 238) (.c (.int .i64 4)), (some (233, true))⟩,
 ⟨(some 240), .pick (.t 233) (.t 239) (.c (.bool false)), none⟩,
 ⟨(some 241), .mv (.t 240), none⟩,
 ⟨(some 242), .mv (.t 17), (some (241, true))⟩,
 ⟨(some 243), .bin .eql (.t 242) (.c (.int .i64 0)), (some (241, true))⟩,
 ⟨(some 244), .pick (.t 241) (.t 243) (.c (.bool false)), none⟩,
 ⟨(some 245), .mv (.t 244), none⟩,
 ⟨(some 246), .fld 3 (.t 16), (some (245, true))⟩,
 ⟨(some 247), .ld none (.t 246), (some (245, true))⟩,
 ⟨(some 248), .ixs 5 (.t 247) (.c (.int .i64 1)), (some (245, true))⟩,
 ⟨(some 249), .fld 0 (.t 248), (some (245, true))⟩,
 ⟨(some 250), .fld 0 (.t 249), (some (245, true))⟩,
 ⟨(some 251), .ld none (.t 250), (some (245, true))⟩,
 ⟨(some 252), .bin .eql (.t 251) (.c (.int .i64 1)), (some (245, true))⟩,
 ⟨(some 253), .pick (.t 245) (.t 252) (.c (.bool false)), none⟩,
 ⟨(some 254), .mv (.t 253), none⟩,
 ⟨(some 255), .mv (.t 19), (some (254, true))⟩,
 ⟨(some 256), .bin .eql (.t 255) (.c (.int .i64 7)), (some (254, true))⟩,
 ⟨(some 257), .pick (.t 254) (.t 256) (.c (.bool false)), none⟩,
 ⟨(some 258), .mv (.t 257), none⟩,
 ⟨(some 259), .mv (.t 21), (some (258, true))⟩,
 ⟨(some 260), .bin .eql (.t 259) (.c (.int .i64 1)), (some (258, true))⟩,
 ⟨(some 261), .pick (.t 258) (.t 260) (.c (.bool false)), none⟩,
 ⟨(some 262), .mv (.t 261), none⟩,
 ⟨(some 263), .mv (.t 23), (some (262, true))⟩,
 ⟨(some 264), .bin .eql (.t 263) (.c (.int .i64 1)), (some (262, true))⟩,
 ⟨(some 265), .pick (.t 262) (.t 264) (.c (.bool false)), none⟩,
 ⟨(some 266), .mv (.t 265), none⟩,
 ⟨(some 267), .mv (.t 25), (some (266, true))⟩,
 ⟨(some 268), .bin .eql (.t 267) (.c (.int .i64 4)), (some (266, true))⟩,
 ⟨(some 269), .pick (.t 266) (.t 268) (.c (.bool false)), none⟩,
 ⟨(some 270), .mv (.t 269), none⟩,
 ⟨(some 271), .mv (.t 27), (some (270, true))⟩,
 ⟨(some 272), .bin .eql (.t 271) (.c (.int .i64 5)), (some (270, true))⟩,
 ⟨(some 273), .pick (.t 270) (.t 272) (.c (.bool false)), none⟩,
 ⟨(some 274), .mv (.t 273), none⟩,
 ⟨(some 275), .mv (.t 29), (some (274, true))⟩,
 ⟨(some 276), .bin .eql (.t 275) (.c (.int .i64 1)), (some (274, true))⟩,
 ⟨(some 277), .pick (.t 274) (.t 276) (.c (.bool false)), none⟩,
 ⟨(some 278), .mv (.t 277), none⟩,
 ⟨(some 279), .mv (.t 31), (some (278, true))⟩,
 ⟨(some 280), .bin .eql (.t 279) (.c (.int .i64 0)), (some (278, true))⟩,
 ⟨(some 281), .pick (.t 278) (.t 280) (.c (.bool false)), none⟩,
 ⟨(some 0), .mv (.t 281), none⟩])
 (.ret)

def k7_3 : ACode :=
 .seq (.seq (.region [
 ⟨(some 149), .fld 3 (.t 10), none⟩,
 ⟨(some 150), .ld none (.t 149), none⟩,
 ⟨(some 151), .len false (.t 150), none⟩,
 ⟨(some 152), .bin .neq (.t 151) (.c (.int .i64 32)), none⟩,
 ⟨(some 153), .mv (.t 152), none⟩,
 ⟨(some 154), .fld 3 (.t 14), (some (153, false))⟩,
 ⟨(some 155), .ld none (.t 154), (some (153, false))⟩,
 ⟨(some 156), .len false (.t 155), (some (153, false))⟩,
 ⟨(some 157), .bin .neq (.t 156) (.c (.int .i64 32)), (some (153, false))⟩,
 ⟨(some 158), .pick (.t 153) (.c (.bool true)) (.t 157), none⟩,
 ⟨(some 159), .mv (.t 158), none⟩,
 ⟨(some 160), .fld 3 (.t 16), (some (159, false))⟩,
 ⟨(some 161), .ld none (.t 160), (some (159, false))⟩,
 ⟨(some 162), .len false (.t 161), (some (159, false))⟩,
 ⟨(some 163), .bin .neq (.t 162) (.c (.int .i64 32)), (some (159, false))⟩,
 ⟨(some 164), .pick (.t 159) (.c (.bool true)) (.t 163), none⟩])
 k7_1)
 k7_2

def k7_4 : ACode :=
 .seq (.region [
 ⟨(some 144), .ld (some 5) (.t 1), none⟩,
 ⟨(some 145), .build [.int .i64 0, .int .i64 0, .int .i64 0, .int .i64 0] [(0, 1, (.c (.int .i64 3))), (1, 1, (.c (.int .i64 1))), (2, 1, (.c (.int .i64 4))), (3, 1, (.c (.int .i64 3)))], none⟩,
 ⟨(some 146), .call 34 [(.t 144), (.c (.int .i64 1)), (.c (.int .i64 2)), (.t 145)], none⟩,
 ⟨(some 143), .mv (.t 146), none⟩,
 ⟨(some 147), .ext (.t 143) 0, none⟩,
 ⟨(some 148), .ext (.t 143) 1, none⟩,
 ⟨(some 30), .new [.int .i64 0, .int .i64 0, .int .i64 0, .lit (.slice none 0 0), .lit (.slice none 0 0)], none⟩,
 ⟨none, .st 5 (.t 30) (.t 147), none⟩,
 ⟨(some 31), .mv (.t 148), none⟩])
 k7_3

def k7_5 : ACode :=
 .seq (.region [
 ⟨(some 138), .ld (some 5) (.t 1), none⟩,
 ⟨(some 139), .build [.int .i64 0, .int .i64 0, .int .i64 0, .int .i64 0] [(0, 1, (.c (.int .i64 3))), (1, 1, (.c (.int .i64 1)))], none⟩,
 ⟨(some 140), .call 34 [(.t 138), (.c (.int .i64 1)), (.c (.int .i64 20)), (.t 139)], none⟩,
 ⟨(some 137), .mv (.t 140), none⟩,
 ⟨(some 141), .ext (.t 137) 0, none⟩,
 ⟨(some 142), .ext (.t 137) 1, none⟩,
 ⟨(some 28), .new [.int .i64 0, .int .i64 0, .int .i64 0, .lit (.slice none 0 0), .lit (.slice none 0 0)], none⟩,
 ⟨none, .st 5 (.t 28) (.t 141), none⟩,
 ⟨(some 29), .mv (.t 142), none⟩])
 k7_4

def k7_6 : ACode :=
 .seq (.region [
 ⟨(some 132), .ld (some 5) (.t 1), none⟩,
 ⟨(some 133), .build [.int .i64 0, .int .i64 0, .int .i64 0, .int .i64 0] [(0, 1, (.c (.int .i64 3))), (1, 1, (.c (.int .i64 1)))], none⟩,
 ⟨(some 134), .call 34 [(.t 132), (.c (.int .i64 1)), (.c (.int .i64 0)), (.t 133)], none⟩,
 ⟨(some 131), .mv (.t 134), none⟩,
 ⟨(some 135), .ext (.t 131) 0, none⟩,
 ⟨(some 136), .ext (.t 131) 1, none⟩,
 ⟨(some 26), .new [.int .i64 0, .int .i64 0, .int .i64 0, .lit (.slice none 0 0), .lit (.slice none 0 0)], none⟩,
 ⟨none, .st 5 (.t 26) (.t 135), none⟩,
 ⟨(some 27), .mv (.t 136), none⟩])
 k7_5

def k7_7 : ACode :=
 .seq (.region [
 ⟨(some 126), .ld (some 5) (.t 1), none⟩,
 ⟨(some 127), .build [.int .i64 0, .int .i64 0, .int .i64 0, .int .i64 0] [(0, 1, (.c (.int .i64 3))), (1, 1, (.c (.int .i64 1)))], none⟩,
 ⟨(some 128), .call 34 [(.t 126), (.c (.int .i64 3)), (.c (.int .i64 2)), (.t 127)], none⟩,
 ⟨(some 125), .mv (.t 128), none⟩,
 ⟨(some 129), .ext (.t 125) 0, none⟩,
 ⟨(some 130), .ext (.t 125) 1, none⟩,
 ⟨(some 24), .new [.int .i64 0, .int .i64 0, .int .i64 0, .lit (.slice none 0 0), .lit (.slice none 0 0)], none⟩,
 ⟨none, .st 5 (.t 24) (.t 129), none⟩,
 ⟨(some 25), .mv (.t 130), none⟩])
 k7_6

def k7_8 : ACode :=
 .seq (.region [
 ⟨(some 120), .ld (some 5) (.t 10), none⟩,
 ⟨(some 121), .build [.int .i64 0, .int .i64 0, .int .i64 0, .int .i64 0] [(0, 1, (.c (.int .i64 3))), (1, 1, (.c (.int .i64 1))), (2, 1, (.c (.int .i64 7))), (3, 1, (.c (.int .i64 9)))], none⟩,
 ⟨(some 122), .call 34 [(.t 120), (.c (.int .i64 2)), (.c (.int .i64 3)), (.t 121)], none⟩,
 ⟨(some 119), .mv (.t 122), none⟩,
 ⟨(some 123), .ext (.t 119) 0, none⟩,
 ⟨(some 124), .ext (.t 119) 1, none⟩,
 ⟨(some 22), .new [.int .i64 0, .int .i64 0, .int .i64 0, .lit (.slice none 0 0), .lit (.slice none 0 0)], none⟩,
 ⟨none, .st 5 (.t 22) (.t 123), none⟩,
 ⟨(some 23), .mv (.t 124), none⟩])
 k7_7

def k7_9 : ACode :=
 .seq (.region [
 ⟨(some 114), .ld (some 5) (.t 1), none⟩,
 ⟨(some 115), .build [.int .i64 0, .int .i64 0, .int .i64 0, .int .i64 0] [], none⟩,
 ⟨(some 116), .call 34 [(.t 114), (.c (.int .i64 1)), (.c (.int .i64 2)), (.t 115)], none⟩,
 ⟨(some 113), .mv (.t 116), none⟩,
 ⟨(some 117), .ext (.t 113) 0, none⟩,
 ⟨(some 118), .ext (.t 113) 1, none⟩,
 ⟨(some 20), .new [.int .i64 0, .int .i64 0, .int .i64 0, .lit (.slice none 0 0), .lit (.slice none 0 0)], none⟩,
 ⟨none, .st 5 (.t 20) (.t 117), none⟩,
 ⟨(some 21), .mv (.t 118), none⟩])
 k7_8

def k7_10 : ACode :=
 .seq (.region [
 ⟨(some 108), .ld (some 5) (.t 1), none⟩,
 ⟨(some 109), .build [.int .i64 0, .int .i64 0, .int .i64 0, .int .i64 0] [(0, 1, (.c (.int .i64 1))), (2, 1, (.c (.int .i64 7)))], none⟩,
 ⟨(some 110), .call 34 [(.t 108), (.c (.int .i64 0)), (.c (.int .i64 2)), (.t 109)], none⟩,
 ⟨(some 107), .mv (.t 110), none⟩,
 ⟨(some 111), .ext (.t 107) 0, none⟩,
 ⟨(some 112), .ext (.t 107) 1, none⟩,
 ⟨(some 18), .new [.int .i64 0, .int .i64 0, .int .i64 0, .lit (.slice none 0 0), .lit (.slice none 0 0)], none⟩,
 ⟨none, .st 5 (.t 18) (.t 111), none⟩,
 ⟨(some 19), .mv (.t 112), none⟩])
 k7_9

def k7_11 : ACode :=
 .seq (.drawn [
 (0, ⟨(some 99), .ld (some 5) (.t 14), none⟩),
 (1, ⟨(some 100), .born 0 (.bsl 1 1 [.int .i64 0] [(0, (.c (.int .i64 0)))]), none⟩),
 (2, ⟨(some 101), .call 33 [(.t 100)], none⟩),
 (3, ⟨(some 102), .born 1 (.bsl 1 1 [.int .i64 0] [(0, (.c (.int .i64 1)))]), none⟩),
 (4, ⟨(some 103), .call 33 [(.t 102)], none⟩),
 (5, ⟨(some 104), .call 32 [(.t 99), (.c (.int .i64 4)), (.t 101), (.t 103), (.c (.int .i64 0)), (.c (.int .i64 0))], none⟩),
 (6, ⟨(some 98), .mv (.t 104), none⟩),
 (7, ⟨(some 105), .ext (.t 98) 0, none⟩),
 (9, ⟨(some 16), .born 2 (.new [.int .i64 0, .int .i64 0, .int .i64 0, .lit (.slice none 0 0), .lit (.slice none 0 0)]), none⟩),
 (10, ⟨none, .st 5 (.t 16) (.t 105), none⟩),
 (8, ⟨(some 106), .ext (.t 98) 1, none⟩),
 (11, ⟨(some 17), .mv (.t 106), none⟩)]
 [[], [], [1], [], [3, 2], [0, 2, 4, 4], [5], [6], [6], [], [9, 7, 5, 0, 1, 2, 3, 4, 5, 6, 7, 9], [8, 10, 0, 1, 2, 3, 4, 5, 6, 7, 8, 9, 10]] 3)
 k7_10

def k7_12 : ACode :=
 .seq (.drawn [
 (0, ⟨(some 90), .ld (some 5) (.t 10), none⟩),
 (1, ⟨(some 91), .born 0 (.bsl 1 1 [.int .i64 0] [(0, (.c (.int .i64 1)))]), none⟩),
 (2, ⟨(some 92), .call 33 [(.t 91)], none⟩),
 (3, ⟨(some 93), .born 1 (.bsl 1 1 [.int .i64 0] [(0, (.c (.int .i64 4)))]), none⟩),
 (4, ⟨(some 94), .call 33 [(.t 93)], none⟩),
 (5, ⟨(some 95), .call 32 [(.t 90), (.c (.int .i64 4)), (.t 92), (.t 94), (.c (.int .i64 0)), (.c (.int .i64 0))], none⟩),
 (6, ⟨(some 89), .mv (.t 95), none⟩),
 (7, ⟨(some 96), .ext (.t 89) 0, none⟩),
 (9, ⟨(some 14), .born 2 (.new [.int .i64 0, .int .i64 0, .int .i64 0, .lit (.slice none 0 0), .lit (.slice none 0 0)]), none⟩),
 (10, ⟨none, .st 5 (.t 14) (.t 96), none⟩),
 (8, ⟨(some 97), .ext (.t 89) 1, none⟩),
 (11, ⟨(some 15), .mv (.t 97), none⟩)]
 [[], [], [1], [], [3, 2], [0, 2, 4, 4], [5], [6], [6], [], [9, 7, 5, 0, 1, 2, 3, 4, 5, 6, 7, 9], [8, 10, 0, 1, 2, 3, 4, 5, 6, 7, 8, 9, 10]] 3)
 k7_11

def k7_13 : ACode :=
 .seq (.drawn [
 (0, ⟨(some 81), .ld (some 5) (.t 10), none⟩),
 (1, ⟨(some 82), .born 0 (.bsl 1 1 [.int .i64 0] [(0, (.c (.int .i64 2)))]), none⟩),
 (2, ⟨(some 83), .call 33 [(.t 82)], none⟩),
 (3, ⟨(some 84), .born 1 (.bsl 1 1 [.int .i64 0] [(0, (.c (.int .i64 3)))]), none⟩),
 (4, ⟨(some 85), .call 33 [(.t 84)], none⟩),
 (5, ⟨(some 86), .call 32 [(.t 81), (.c (.int .i64 3)), (.t 83), (.t 85), (.c (.int .i64 7)), (.c (.int .i64 8))], none⟩),
 (6, ⟨(some 80), .mv (.t 86), none⟩),
 (7, ⟨(some 87), .ext (.t 80) 0, none⟩),
 (9, ⟨(some 12), .born 2 (.new [.int .i64 0, .int .i64 0, .int .i64 0, .lit (.slice none 0 0), .lit (.slice none 0 0)]), none⟩),
 (10, ⟨none, .st 5 (.t 12) (.t 87), none⟩),
 (8, ⟨(some 88), .ext (.t 80) 1, none⟩),
 (11, ⟨(some 13), .mv (.t 88), none⟩)]
 [[], [], [1], [], [3, 2], [0, 2, 4, 4], [5], [6], [6], [], [9, 7, 5, 0, 1, 2, 3, 4, 5, 6, 7, 9], [8, 10, 0, 1, 2, 3, 4, 5, 6, 7, 8, 9, 10]] 3)
 k7_12

def k7_14 : ACode :=
 .seq (.drawn [
 (0, ⟨(some 72), .ld (some 5) (.t 1), none⟩),
 (1, ⟨(some 73), .born 0 (.bsl 1 1 [.int .i64 0] [(0, (.c (.int .i64 1)))]), none⟩),
 (2, ⟨(some 74), .call 33 [(.t 73)], none⟩),
 (3, ⟨(some 75), .born 1 (.bsl 1 1 [.int .i64 0] [(0, (.c (.int .i64 2)))]), none⟩),
 (4, ⟨(some 76), .call 33 [(.t 75)], none⟩),
 (5, ⟨(some 77), .call 32 [(.t 72), (.c (.int .i64 3)), (.t 74), (.t 76), (.c (.int .i64 3)), (.c (.int .i64 9))], none⟩),
 (6, ⟨(some 71), .mv (.t 77), none⟩),
 (7, ⟨(some 78), .ext (.t 71) 0, none⟩),
 (9, ⟨(some 10), .born 2 (.new [.int .i64 0, .int .i64 0, .int .i64 0, .lit (.slice none 0 0), .lit (.slice none 0 0)]), none⟩),
 (10, ⟨none, .st 5 (.t 10) (.t 78), none⟩),
 (8, ⟨(some 79), .ext (.t 71) 1, none⟩),
 (11, ⟨(some 11), .mv (.t 79), none⟩)]
 [[], [], [1], [], [3, 2], [0, 2, 4, 4], [5], [6], [6], [], [9, 7, 5, 0, 1, 2, 3, 4, 5, 6, 7, 9], [8, 10, 0, 1, 2, 3, 4, 5, 6, 7, 8, 9, 10]] 3)
 k7_13

def k7_15 : ACode :=
 .seq (.drawn [
 (0, ⟨(some 63), .ld (some 5) (.t 1), none⟩),
 (1, ⟨(some 64), .born 0 (.bsl 1 1 [.int .i64 0] [(0, (.c (.int .i64 0)))]), none⟩),
 (2, ⟨(some 65), .call 33 [(.t 64)], none⟩),
 (3, ⟨(some 66), .born 1 (.bsl 1 1 [.int .i64 0] [(0, (.c (.int .i64 2)))]), none⟩),
 (4, ⟨(some 67), .call 33 [(.t 66)], none⟩),
 (5, ⟨(some 68), .call 32 [(.t 63), (.c (.int .i64 3)), (.t 65), (.t 67), (.c (.int .i64 7)), (.c (.int .i64 9))], none⟩),
 (6, ⟨(some 62), .mv (.t 68), none⟩),
 (7, ⟨(some 69), .ext (.t 62) 0, none⟩),
 (9, ⟨(some 8), .born 2 (.new [.int .i64 0, .int .i64 0, .int .i64 0, .lit (.slice none 0 0), .lit (.slice none 0 0)]), none⟩),
 (10, ⟨none, .st 5 (.t 8) (.t 69), none⟩),
 (8, ⟨(some 70), .ext (.t 62) 1, none⟩),
 (11, ⟨(some 9), .mv (.t 70), none⟩)]
 [[], [], [1], [], [3, 2], [0, 2, 4, 4], [5], [6], [6], [], [9, 7, 5, 0, 1, 2, 3, 4, 5, 6, 7, 9], [8, 10, 0, 1, 2, 3, 4, 5, 6, 7, 8, 9, 10]] 3)
 k7_14

def k7_16 : ACode :=
 .seq (.drawn [
 (0, ⟨(some 54), .ld (some 5) (.t 1), none⟩),
 (1, ⟨(some 55), .born 0 (.bsl 1 1 [.int .i64 0] [(0, (.c (.int .i64 3)))]), none⟩),
 (2, ⟨(some 56), .call 33 [(.t 55)], none⟩),
 (3, ⟨(some 57), .born 1 (.bsl 1 1 [.int .i64 0] [(0, (.c (.int .i64 2)))]), none⟩),
 (4, ⟨(some 58), .call 33 [(.t 57)], none⟩),
 (5, ⟨(some 59), .call 32 [(.t 54), (.c (.int .i64 2)), (.t 56), (.t 58), (.c (.int .i64 7)), (.c (.int .i64 0))], none⟩),
 (6, ⟨(some 53), .mv (.t 59), none⟩),
 (7, ⟨(some 60), .ext (.t 53) 0, none⟩),
 (9, ⟨(some 6), .born 2 (.new [.int .i64 0, .int .i64 0, .int .i64 0, .lit (.slice none 0 0), .lit (.slice none 0 0)]), none⟩),
 (10, ⟨none, .st 5 (.t 6) (.t 60), none⟩),
 (8, ⟨(some 61), .ext (.t 53) 1, none⟩),
 (11, ⟨(some 7), .mv (.t 61), none⟩)]
 [[], [], [1], [], [3, 2], [0, 2, 4, 4], [5], [6], [6], [], [9, 7, 5, 0, 1, 2, 3, 4, 5, 6, 7, 9], [8, 10, 0, 1, 2, 3, 4, 5, 6, 7, 8, 9, 10]] 3)
 k7_15

def k7_17 : ACode :=
 .seq (.drawn [
 (0, ⟨(some 45), .ld (some 5) (.t 1), none⟩),
 (1, ⟨(some 46), .born 0 (.bsl 1 1 [.int .i64 0] [(0, (.c (.int .i64 1)))]), none⟩),
 (2, ⟨(some 47), .call 33 [(.t 46)], none⟩),
 (3, ⟨(some 48), .born 1 (.bsl 1 1 [.int .i64 0] [(0, (.c (.int .i64 0)))]), none⟩),
 (4, ⟨(some 49), .call 33 [(.t 48)], none⟩),
 (5, ⟨(some 50), .call 32 [(.t 45), (.c (.int .i64 2)), (.t 47), (.t 49), (.c (.int .i64 7)), (.c (.int .i64 0))], none⟩),
 (6, ⟨(some 44), .mv (.t 50), none⟩),
 (7, ⟨(some 51), .ext (.t 44) 0, none⟩),
 (9, ⟨(some 4), .born 2 (.new [.int .i64 0, .int .i64 0, .int .i64 0, .lit (.slice none 0 0), .lit (.slice none 0 0)]), none⟩),
 (10, ⟨none, .st 5 (.t 4) (.t 51), none⟩),
 (8, ⟨(some 52), .ext (.t 44) 1, none⟩),
 (11, ⟨(some 5), .mv (.t 52), none⟩)]
 [[], [], [1], [], [3, 2], [0, 2, 4, 4], [5], [6], [6], [], [9, 7, 5, 0, 1, 2, 3, 4, 5, 6, 7, 9], [8, 10, 0, 1, 2, 3, 4, 5, 6, 7, 8, 9, 10]] 3)
 k7_16

def k7_18 : ACode :=
 .seq (.drawn [
 (0, ⟨(some 36), .ld (some 5) (.t 1), none⟩),
 (1, ⟨(some 37), .born 0 (.bsl 1 1 [.int .i64 0] [(0, (.c (.int .i64 0)))]), none⟩),
 (2, ⟨(some 38), .call 33 [(.t 37)], none⟩),
 (3, ⟨(some 39), .born 1 (.bsl 1 1 [.int .i64 0] [(0, (.c (.int .i64 2)))]), none⟩),
 (4, ⟨(some 40), .call 33 [(.t 39)], none⟩),
 (5, ⟨(some 41), .call 32 [(.t 36), (.c (.int .i64 2)), (.t 38), (.t 40), (.c (.int .i64 7)), (.c (.int .i64 0))], none⟩),
 (6, ⟨(some 35), .mv (.t 41), none⟩),
 (7, ⟨(some 42), .ext (.t 35) 0, none⟩),
 (9, ⟨(some 2), .born 2 (.new [.int .i64 0, .int .i64 0, .int .i64 0, .lit (.slice none 0 0), .lit (.slice none 0 0)]), none⟩),
 (10, ⟨none, .st 5 (.t 2) (.t 42), none⟩),
 (8, ⟨(some 43), .ext (.t 35) 1, none⟩),
 (11, ⟨(some 3), .mv (.t 43), none⟩)]
 [[], [], [1], [], [3, 2], [0, 2, 4, 4], [5], [6], [6], [], [9, 7, 5, 0, 1, 2, 3, 4, 5, 6, 7, 9], [8, 10, 0, 1, 2, 3, 4, 5, 6, 7, 8, 9, 10]] 3)
 k7_17

def k7_19 : ACode :=
 .seq (.region [
 ⟨(some 34), .call 31 [], none⟩,
 ⟨(some 1), .new [.int .i64 0, .int .i64 0, .int .i64 0, .lit (.slice none 0 0), .lit (.slice none 0 0)], none⟩,
 ⟨none, .st 5 (.t 1) (.t 34), none⟩])
 k7_18

def k7_20 : ACode :=
 .seq (.seq (.region [
 ⟨(some 32), .call 30 [], none⟩,
 ⟨(some 33), .un .not (.t 32), none⟩])
 k7_0)
 k7_19

def c7 : ACode :=
 .seq (.region [
 ⟨(some 0), .mv (.c (.bool false)), none⟩])
 k7_20
theorem ok7 : fnOk Try.prog 7 c7 282 [.t 0] = true := by kernel_rfl

def k8_0 : ACode :=
 .cond (.t 13)
 (.seq (.region [
 ⟨(some 6), .mv (.c (.bool false)), none⟩])
 (.ret))
 (.skip)

def k8_1 : ACode :=
 .cond (.t 35)
 (.seq (.region [
 ⟨(some 6), .mv (.c (.bool true)), none⟩])
 (.ret))
 (.skip)

def k8_2 : ACode :=
 .seq (.region [
 ⟨(some 69), .ld (some 3) (.t 8), none⟩,
 ⟨(some 70), .build [.int .i64 0, .int .u64 0, .int .i64 0] [], none⟩,
 ⟨(some 71), .eqs false [0, 0, 0] (.t 69) (.t 70), none⟩,
 ⟨(some 72), .mv (.t 71), none⟩,
 ⟨(some 73), .ld (some 3) (.t 9), (some (72, true))⟩,
 ⟨(some 74), .build [.int .i64 0, .int .u64 0, .int .i64 0] [], (some (72, true))⟩,
 ⟨(some 75), .eqs false [0, 0, 0] (.t 73) (.t 74), (some (72, true))⟩,
 ⟨(some 76), .pick (.t 72) (.t 75) (.c (.bool false)), none⟩,
 ⟨(some 77), .mv (.t 76), none⟩,
 ⟨(some 78), .fld 0 (.t 11), (some (77, true))⟩,
 ⟨(some 79), .ld none (.t 78), (some (77, true))⟩,
 ⟨(some 80), .bin .eql (.t 79) (.c (.int .i64 5)), (some (77, true))⟩,
 ⟨(some 81), .pick (.t 77) (.t 80) (.c (.bool false)), none⟩,
 ⟨(some 82), .mv (.t 81), none⟩,
 ⟨(some 83), .fld 3 (.t 7), (some (82, true))⟩,
 ⟨(some 84), .ld none (.t 83), (some (82, true))⟩,
 ⟨(some 85), .len false (.t 84), (some (82, true))⟩,
 ⟨(some 86), .bin .eql (.t 85) (.c (.int .i64 32)), (some (82, true))⟩,
 ⟨(some 87), .pick (.t 82) (.t 86) (.c (.bool false)), none⟩,
 ⟨(some 88), .mv (.t 87), none⟩,
 ⟨(some 89), .fld 3 (.t 7), (some (88, true))⟩,
 ⟨(some 90), .ld none (.t 89), (some (88, true))⟩,
 ⟨(some 91), .ixs 5 (.t 90) (.c (.int .i64 3)), (some (88, true))⟩,
 ⟨(some 92), .fld 0 (.t 91), (some (88, true))⟩,
 ⟨(some 93), .ld (some 4) (.t 92), (some (88, true))⟩,
 ⟨(some 94), .mv (.t 1), (some (88, true))⟩,
 ⟨(some 95), .mv (.t 0), (some (88, true))⟩,
 ⟨(some 96), .build [.int .i64 0, .int .i64 0, .int .i64 0, .int .i64 0] [(0, 1, (.c (.int .i64 3))), (1, 1, (.c (.int .i64 1))), (2, 1, (.t 94)), (3, 1, (.t 95))], (some (88, true))⟩,
 ⟨(some 97), .eqs false [0, 0, 0, 0] (.t 93) (.t 96), (some (88, true))⟩,
 ⟨(some 98), .pick (.t 88) (.t 97) (.c (.bool false)), none⟩,
 ⟨(some 99), .mv (.t 98), none⟩,
 ⟨(some 100), .fld 3 (.t 7), (some (99, true))⟩,
 ⟨(some 101), .ld none (.t 100), (some (99, true))⟩,
 ⟨(some 102), .ixs 5 (.t 101) (.c (.int .i64 3)), (some (99, true))⟩,
 ⟨(some 103), .fld 4 (.t 102), (some (99, true))⟩,
 ⟨(some 104), .ld none (.t 103), (some (99, true))⟩,
 ⟨(some 105), .bin .eql (.t 104) (.c (.int .i64 2)), (some (99, true))⟩,
 ⟨(some 106), .pick (.t 99) (.t 105) (.c (.bool false)), none⟩,
 ⟨(some 6), .mv (.t 106), none⟩])
 (.ret)

def k8_3 : ACode :=
 .seq (.drawn [
 (0, ⟨(some 59), .ld (some 5) (.t 7), none⟩),
 (1, ⟨(some 60), .born 0 (.bsl 1 1 [.int .i64 0] [(0, (.c (.int .i64 3)))]), none⟩),
 (2, ⟨(some 61), .call 33 [(.t 60)], none⟩),
 (3, ⟨(some 62), .born 1 (.bsl 1 1 [.int .i64 0] [(0, (.c (.int .i64 4)))]), none⟩),
 (4, ⟨(some 63), .call 33 [(.t 62)], none⟩),
 (5, ⟨(some 64), .mv (.t 2), none⟩),
 (6, ⟨(some 65), .build [.int .i64 0, .lit (.slice none 0 0), .lit (.slice none 0 0), .int .i64 0, .int .i64 0, .int .u64 0] [(0, 1, (.c (.int .i64 3))), (1, 1, (.t 61)), (2, 1, (.t 63)), (3, 1, (.c (.int .i64 7))), (4, 1, (.t 64))], none⟩),
 (7, ⟨(some 66), .call 35 [(.t 59), (.c (.int .i64 0)), (.t 65)], none⟩),
 (8, ⟨(some 58), .mv (.t 66), none⟩),
 (9, ⟨(some 67), .ext (.t 58) 0, none⟩),
 (11, ⟨(some 10), .born 2 (.new [.int .i64 0, .int .i64 0, .int .i64 0, .lit (.slice none 0 0), .lit (.slice none 0 0)]), none⟩),
 (12, ⟨(some 11), .born 3 (.new [.int .i64 0, .int .u64 0, .int .i64 0]), none⟩),
 (13, ⟨none, .st 5 (.t 10) (.t 67), none⟩),
 (10, ⟨(some 68), .ext (.t 58) 1, none⟩),
 (14, ⟨none, .st 3 (.t 11) (.t 68), none⟩)]
 [[], [], [1], [], [3, 2], [], [2, 4, 5], [0, 6, 4], [7], [8], [8], [], [], [11, 9, 7, 0, 1, 2, 3, 4, 5, 6, 7, 8, 9, 11, 12], [12, 10, 13, 0, 1, 2, 3, 4, 5, 6, 7, 8, 9, 10, 11, 12, 13]] 4)
 k8_2

def k8_4 : ACode :=
 .seq (.drawn [
 (0, ⟨(some 48), .ld (some 5) (.t 7), none⟩),
 (1, ⟨(some 49), .born 0 (.bsl 1 1 [.int .i64 0] [(0, (.c (.int .i64 2)))]), none⟩),
 (2, ⟨(some 50), .call 33 [(.t 49)], none⟩),
 (3, ⟨(some 51), .born 1 (.bsl 1 1 [.int .i64 0] [(0, (.c (.int .i64 3)))]), none⟩),
 (4, ⟨(some 52), .call 33 [(.t 51)], none⟩),
 (5, ⟨(some 53), .mv (.t 1), none⟩),
 (6, ⟨(some 54), .build [.int .i64 0, .lit (.slice none 0 0), .lit (.slice none 0 0), .int .i64 0, .int .i64 0, .int .u64 0] [(0, 1, (.c (.int .i64 2))), (1, 1, (.t 50)), (2, 1, (.t 52)), (3, 1, (.t 53))], none⟩),
 (7, ⟨(some 55), .call 35 [(.t 48), (.c (.int .i64 0)), (.t 54)], none⟩),
 (8, ⟨(some 47), .mv (.t 55), none⟩),
 (9, ⟨(some 56), .ext (.t 47) 0, none⟩),
 (11, ⟨(some 9), .born 2 (.new [.int .i64 0, .int .u64 0, .int .i64 0]), none⟩),
 (12, ⟨none, .st 5 (.t 7) (.t 56), none⟩),
 (10, ⟨(some 57), .ext (.t 47) 1, none⟩),
 (13, ⟨none, .st 3 (.t 9) (.t 57), none⟩)]
 [[], [], [1], [], [3, 2], [], [2, 4, 5], [0, 6, 4], [7], [8], [8], [], [9, 7, 0, 1, 2, 3, 4, 5, 6, 7, 8, 9, 11], [11, 10, 12, 0, 1, 2, 3, 4, 5, 6, 7, 8, 9, 10, 11, 12]] 3)
 k8_3

def k8_5 : ACode :=
 .seq (.region [
 ⟨(some 37), .call 31 [], none⟩,
 ⟨(some 38), .bsl 1 1 [.int .i64 0] [(0, (.c (.int .i64 1)))], none⟩,
 ⟨(some 39), .call 33 [(.t 38)], none⟩,
 ⟨(some 40), .bsl 1 1 [.int .i64 0] [(0, (.c (.int .i64 2)))], none⟩,
 ⟨(some 41), .call 33 [(.t 40)], none⟩,
 ⟨(some 42), .mv (.t 0), none⟩,
 ⟨(some 43), .build [.int .i64 0, .lit (.slice none 0 0), .lit (.slice none 0 0), .int .i64 0, .int .i64 0, .int .u64 0] [(0, 1, (.c (.int .i64 3))), (1, 1, (.t 39)), (2, 1, (.t 41)), (3, 1, (.c (.int .i64 7))), (4, 1, (.t 42))], none⟩,
 ⟨(some 44), .call 35 [(.t 37), (.c (.int .i64 0)), (.t 43)], none⟩,
 ⟨(some 36), .mv (.t 44), none⟩,
 ⟨(some 45), .ext (.t 36) 0, none⟩,
 ⟨(some 46), .ext (.t 36) 1, none⟩,
 ⟨(some 7), .new [.int .i64 0, .int .i64 0, .int .i64 0, .lit (.slice none 0 0), .lit (.slice none 0 0)], none⟩,
 ⟨(some 8), .new [.int .i64 0, .int .u64 0, .int .i64 0], none⟩,
 ⟨none, .st 5 (.t 7) (.t 45), none⟩,
 ⟨none, .st 3 (.t 8) (.t 46), none⟩])
 k8_4

def k8_6 : ACode :=
 .seq (.seq (.region [
 ⟨(some 14), .mv (.t 0), none⟩,
 ⟨(some 15), .bin .lss (.t 14) (.c (.int .i64 1)), none⟩,
 ⟨(some 16), .mv (.t 15), none⟩,
 ⟨(some 17), .mv (.t 0), (some (16, false))⟩,
 ⟨(some 18), .bin .gtr (.t 17) (.c (.int .i64 65535)), (some (16, false))⟩,
 ⟨(some 19), .pick (.t 16) (.c (.bool true)) (.t 18), none⟩,
 ⟨(some 20), .mv (.t 19), none⟩,
 ⟨(some 21), .mv (.t 1), (some (20, false))⟩,
 ⟨(some 22), .bin .lss (.t 21) (.c (.int .i64 0)), (some (20, false))⟩,
 ⟨(some 23), .pick (.t 20) (.c (.bool true)) (.t 22), none⟩,
 ⟨(some 24), .mv (.t 23), none⟩,
 ⟨(some 25), .mv (.t 1), (some (24, false))⟩,
 ⟨(some 26), .bin .gtr (.t 25) (.c (.int .i64 7)), (some (24, false))⟩,
 ⟨(some 27), .pick (.t 24) (.c (.bool true)) (.t 26), none⟩,
 ⟨(some 28), .mv (.t 27), none⟩,
 ⟨(some 29), .mv (.t 2), (some (28, false))⟩,
 ⟨(some 30), .bin .lss (.t 29) (.c (.int .i64 1)), (some (28, false))⟩,
 ⟨(some 31), .pick (.t 28) (.c (.bool true)) (.t 30), none⟩,
 ⟨(some 32), .mv (.t 31), none⟩,
 ⟨(some 33), .mv (.t 2), (some (32, false))⟩,
 ⟨(some 34), .bin .gtr (.t 33) (.c (.int .i64 65535)), (some (32, false))⟩,
 ⟨(some 35), .pick (.t 32) (.c (.bool true)) (.t 34), none⟩])
 k8_1)
 k8_5

def k8_7 : ACode :=
 .seq (.seq (.region [
 ⟨(some 12), .call 30 [], none⟩,
 ⟨(some 13), .un .not (.t 12), none⟩])
 k8_0)
 k8_6

def c8 : ACode :=
 .seq (.region [
 ⟨(some 6), .mv (.c (.bool false)), none⟩])
 k8_7
theorem ok8 : fnOk Try.prog 8 c8 107 [.t 6] = true := by kernel_rfl

def k9_0 : ACode :=
 .cond (.t 15)
 (.seq (.region [
 ⟨(some 8), .mv (.c (.bool false)), none⟩])
 (.ret))
 (.skip)

def k9_1 : ACode :=
 .cond (.t 38)
 (.seq (.region [
 ⟨(some 8), .mv (.c (.bool true)), none⟩])
 (.ret))
 (.skip)

def k9_2 : ACode :=
 .seq (.region [
 ⟨(some 49), .ld (some 5) (.t 10), none⟩,
 ⟨(some 50), .ld (some 5) (.t 4), none⟩,
 ⟨(some 51), .call 17 [(.t 49), (.t 50)], none⟩,
 ⟨(some 8), .mv (.t 51), none⟩])
 (.ret)

def k9_3 : ACode :=
 .seq (.region [
 ⟨(some 63), .fld 0 (.t 13), none⟩,
 ⟨(some 64), .ld none (.t 63), none⟩,
 ⟨(some 65), .bin .eql (.t 64) (.c (.int .i64 0)), none⟩,
 ⟨(some 66), .mv (.t 65), none⟩,
 ⟨(some 67), .ld (some 5) (.t 12), (some (66, true))⟩,
 ⟨(some 68), .ld (some 5) (.t 4), (some (66, true))⟩,
 ⟨(some 69), .call 17 [(.t 67), (.t 68)], (some (66, true))⟩,
 ⟨(some 70), .pick (.t 66) (.t 69) (.c (.bool false)), none⟩,
 ⟨(some 8), .mv (.t 70), none⟩])
 (.ret)

def k9_4 : ACode :=
 .seq (.drawn [
 (0, ⟨(some 53), .ld (some 5) (.t 10), none⟩),
 (2, ⟨(some 55), .mv (.t 3), none⟩),
 (3, ⟨(some 56), .call 33 [(.t 55)], none⟩),
 (4, ⟨(some 57), .mv (.t 2), none⟩),
 (5, ⟨(some 58), .call 33 [(.t 57)], none⟩),
 (1, ⟨(some 54), .mv (.t 1), none⟩),
 (6, ⟨(some 59), .build [.int .i64 0, .lit (.slice none 0 0), .lit (.slice none 0 0), .int .i64 0, .int .i64 0, .int .u64 0] [(0, 1, (.c (.int .i64 4))), (1, 1, (.t 56)), (2, 1, (.t 58))], none⟩),
 (7, ⟨(some 60), .call 35 [(.t 53), (.t 54), (.t 59)], none⟩),
 (8, ⟨(some 52), .mv (.t 60), none⟩),
 (9, ⟨(some 61), .ext (.t 52) 0, none⟩),
 (11, ⟨(some 12), .born 0 (.new [.int .i64 0, .int .i64 0, .int .i64 0, .lit (.slice none 0 0), .lit (.slice none 0 0)]), none⟩),
 (12, ⟨(some 13), .born 1 (.new [.int .i64 0, .int .u64 0, .int .i64 0]), none⟩),
 (13, ⟨none, .st 5 (.t 12) (.t 61), none⟩),
 (10, ⟨(some 62), .ext (.t 52) 1, none⟩),
 (14, ⟨none, .st 3 (.t 13) (.t 62), none⟩)]
 [[], [], [], [2], [], [4, 3], [3, 5], [0, 1, 6, 5], [7], [8], [8], [], [], [11, 9, 7, 0, 1, 2, 3, 4, 5, 6, 7, 8, 9, 11, 12], [12, 10, 13, 0, 1, 2, 3, 4, 5, 6, 7, 8, 9, 10, 11, 12, 13]] 2)
 k9_3

def k9_5 : ACode :=
 .seq (.seq (.region [
 ⟨(some 46), .fld 0 (.t 11), none⟩,
 ⟨(some 47), .ld none (.t 46), none⟩,
 ⟨(some 48), .bin .neq (.t 47) (.c (.int .i64 0)), none⟩])
 (.cond (.t 48)
 k9_2
 (.skip)))
 k9_4

def k9_6 : ACode :=
 .seq (.region [
 ⟨(some 40), .ld (some 5) (.t 4), none⟩,
 ⟨(some 41), .mv (.t 1), none⟩,
 ⟨(some 42), .ld (some 6) (.t 9), none⟩,
 ⟨(some 43), .call 35 [(.t 40), (.t 41), (.t 42)], none⟩,
 ⟨(some 39), .mv (.t 43), none⟩,
 ⟨(some 44), .ext (.t 39) 0, none⟩,
 ⟨(some 45), .ext (.t 39) 1, none⟩,
 ⟨(some 10), .new [.int .i64 0, .int .i64 0, .int .i64 0, .lit (.slice none 0 0), .lit (.slice none 0 0)], none⟩,
 ⟨(some 11), .new [.int .i64 0, .int .u64 0, .int .i64 0], none⟩,
 ⟨none, .st 5 (.t 10) (.t 44), none⟩,
 ⟨none, .st 3 (.t 11) (.t 45), none⟩])
 k9_5

def k9_7 : ACode :=
 .seq (.seq (.region [
 ⟨(some 21), .ld (some 5) (.t 4), none⟩,
 ⟨(some 22), .ld (some 6) (.t 9), none⟩,
 ⟨(some 23), .call 36 [(.t 21), (.t 22)], none⟩,
 ⟨(some 24), .mv (.t 23), none⟩,
 ⟨(some 25), .ld (some 5) (.t 4), (some (24, false))⟩,
 ⟨(some 26), .call 15 [(.t 25)], (some (24, false))⟩,
 ⟨(some 27), .un .not (.t 26), (some (24, false))⟩,
 ⟨(some 28), .pick (.t 24) (.c (.bool true)) (.t 27), none⟩,
 ⟨(some 29), .mv (.t 28), none⟩,
 ⟨(some 30), .mv (.t 2), (some (29, false))⟩,
 ⟨(some 31), .len false (.t 30), (some (29, false))⟩,
 ⟨(some 32), .bin .neq (.t 31) (.c (.int .i64 1)), (some (29, false))⟩,
 ⟨(some 33), .pick (.t 29) (.c (.bool true)) (.t 32), none⟩,
 ⟨(some 34), .mv (.t 33), none⟩,
 ⟨(some 35), .mv (.t 3), (some (34, false))⟩,
 ⟨(some 36), .len false (.t 35), (some (34, false))⟩,
 ⟨(some 37), .bin .neq (.t 36) (.c (.int .i64 1)), (some (34, false))⟩,
 ⟨(some 38), .pick (.t 34) (.c (.bool true)) (.t 37), none⟩])
 k9_1)
 k9_6

def k9_8 : ACode :=
 .seq (.region [
 ⟨(some 16), .mv (.t 2), none⟩,
 ⟨(some 17), .call 33 [(.t 16)], none⟩,
 ⟨(some 18), .mv (.t 3), none⟩,
 ⟨(some 19), .call 33 [(.t 18)], none⟩,
 ⟨(some 20), .build [.int .i64 0, .lit (.slice none 0 0), .lit (.slice none 0 0), .int .i64 0, .int .i64 0, .int .u64 0] [(0, 1, (.c (.int .i64 4))), (1, 1, (.t 17)), (2, 1, (.t 19))], none⟩,
 ⟨(some 9), .new [.int .i64 0, .lit (.slice none 0 0), .lit (.slice none 0 0), .int .i64 0, .int .i64 0, .int .u64 0], none⟩,
 ⟨none, .st 6 (.t 9) (.t 20), none⟩])
 k9_7

def k9_9 : ACode :=
 .seq (.seq (.region [
 ⟨(some 14), .call 30 [], none⟩,
 ⟨(some 15), .un .not (.t 14), none⟩])
 k9_0)
 k9_8

def c9 : ACode :=
 .seq (.region [
 ⟨(some 4), .box (.t 0), none⟩,
 ⟨(some 8), .mv (.c (.bool false)), none⟩])
 k9_9
theorem ok9 : fnOk Try.prog 9 c9 71 [.t 8] = true := by kernel_rfl

def k10_0 : ACode :=
 .cond (.t 13)
 (.seq (.region [
 ⟨(some 6), .mv (.c (.bool false)), none⟩])
 (.ret))
 (.skip)

def k10_1 : ACode :=
 .cond (.t 31)
 (.seq (.region [
 ⟨(some 6), .mv (.c (.bool true)), none⟩])
 (.ret))
 (.skip)

def k10_2 : ACode :=
 .seq (.region [
 ⟨(some 42), .ld (some 5) (.t 7), none⟩,
 ⟨(some 43), .ld (some 5) (.t 3), none⟩,
 ⟨(some 44), .call 17 [(.t 42), (.t 43)], none⟩,
 ⟨(some 6), .mv (.t 44), none⟩])
 (.ret)

def k10_3 : ACode :=
 .cond (.t 123)
 (.seq (.region [
 ⟨(some 6), .mv (.c (.bool false)), none⟩])
 (.ret))
 (.skip)

def k10_4 : ACode :=
 .seq (.seq (.drawn [
 (0, ⟨(some 76), .mv (.t 11), none⟩),
 (1, ⟨(some 77), .bin .lss (.t 76) (.c (.int .i64 0)), none⟩),
 (2, ⟨(some 78), .mv (.t 77), none⟩),
 (4, ⟨(some 80), .fld 3 (.t 3), (some (78, false))⟩),
 (5, ⟨(some 81), .ld none (.t 80), (some (78, false))⟩),
 (3, ⟨(some 79), .mv (.t 11), (some (78, false))⟩),
 (6, ⟨(some 82), .len false (.t 81), (some (78, false))⟩),
 (7, ⟨(some 83), .bin .geq (.t 79) (.t 82), (some (78, false))⟩),
 (8, ⟨(some 84), .pick (.t 78) (.c (.bool true)) (.t 83), none⟩),
 (9, ⟨(some 85), .mv (.t 84), none⟩),
 (10, ⟨(some 86), .fld 3 (.t 3), (some (85, false))⟩),
 (11, ⟨(some 87), .ld none (.t 86), (some (85, false))⟩),
 (12, ⟨(some 88), .mv (.t 10), (some (85, false))⟩),
 (13, ⟨(some 89), .ixs 5 (.t 87) (.t 88), (some (85, false))⟩),
 (14, ⟨(some 90), .fld 0 (.t 89), (some (85, false))⟩),
 (15, ⟨(some 91), .ld (some 4) (.t 90), (some (85, false))⟩),
 (16, ⟨(some 92), .call 37 [(.t 91)], (some (85, false))⟩),
 (17, ⟨(some 93), .un .not (.t 92), (some (85, false))⟩),
 (18, ⟨(some 94), .pick (.t 85) (.c (.bool true)) (.t 93), none⟩),
 (19, ⟨(some 95), .mv (.t 94), none⟩),
 (20, ⟨(some 96), .fld 3 (.t 7), (some (95, false))⟩),
 (21, ⟨(some 97), .ld none (.t 96), (some (95, false))⟩),
 (22, ⟨(some 98), .mv (.t 10), (some (95, false))⟩),
 (23, ⟨(some 99), .ixs 5 (.t 97) (.t 98), (some (95, false))⟩),
 (24, ⟨(some 100), .fld 0 (.t 99), (some (95, false))⟩),
 (25, ⟨(some 101), .ld (some 4) (.t 100), (some (95, false))⟩),
 (26, ⟨(some 102), .fld 3 (.t 3), (some (95, false))⟩),
 (27, ⟨(some 103), .ld none (.t 102), (some (95, false))⟩),
 (28, ⟨(some 104), .mv (.t 11), (some (95, false))⟩),
 (29, ⟨(some 105), .ixs 5 (.t 103) (.t 104), (some (95, false))⟩),
 (30, ⟨(some 106), .fld 0 (.t 105), (some (95, false))⟩),
 (31, ⟨(some 107), .ld (some 4) (.t 106), (some (95, false))⟩),
 (32, ⟨(some 108), .call 38 [(.t 101), (.t 107)], (some (95, false))⟩),
 (33, ⟨(some 109), .un .not (.t 108), (some (95, false))⟩),
 (34, ⟨(some 110), .pick (.t 95) (.c (.bool true)) (.t 109), none⟩),
 (35, ⟨(some 111), .mv (.t 110), none⟩),
 (36, ⟨(some 112), .fld 3 (.t 7), (some (111, false))⟩),
 (37, ⟨(some 113), .ld none (.t 112), (some (111, false))⟩),
 (38, ⟨(some 114), .mv (.t 10), (some (111, false))⟩),
 (39, ⟨(some 115), .ixs 5 (.t 113) (.t 114), (some (111, false))⟩),
 (40, ⟨(some 116), .fld 0 (.t 115), (some (111, false))⟩),
 (41, ⟨(some 117), .fld 2 (.t 116), (some (111, false))⟩),
 (42, ⟨(some 118), .ld none (.t 117), (some (111, false))⟩),
 (43, ⟨(some 119), .fld 3 (.t 5), (some (111, false))⟩),
 (44, ⟨(some 120), .ld none (.t 119), (some (111, false))⟩),
 (45, ⟨(some 121), .bin .andNot (.t 118) (.t 120), (some (111, false))⟩),
 (46, ⟨(some 122), .bin .neq (.t 121) (.c (.int .i64 0)), (some (111, false))⟩),
 (47, ⟨(some 123), .pick (.t 111) (.c (.bool true)) (.t 122), none⟩)]
 [[], [0], [1], [2], [2], [4, 2], [5, 2], [3, 6, 2], [2, 7], [8, 2], [9], [10, 9], [9], [11, 12, 9], [13, 9], [14, 9], [15, 9, 9], [16, 9], [9, 17], [18, 16], [19], [20, 19], [19], [21, 22, 19], [23, 19], [24, 19], [19], [26, 19], [19], [27, 28, 19], [29, 19], [30, 19], [25, 31, 19, 19], [32, 19], [19, 33], [34, 32], [35], [36, 35], [35], [37, 38, 35], [39, 35], [40, 35], [41, 35], [35], [43, 35], [42, 44, 35], [45, 35], [35, 46]] 0)
 k10_3)
 (.region [
 ⟨(some 124), .mv (.t 9), none⟩,
 ⟨(some 125), .bin .add (.t 124) (.c (.int .i64 1)), none⟩,
 ⟨(some 9), .mv (.t 125), none⟩])

def k10_5 : ACode :=
 .seq (.region [
 ⟨(some 70), .fld 3 (.t 7), none⟩,
 ⟨(some 71), .ld none (.t 70), none⟩,
 ⟨(some 72), .mv (.t 10), none⟩,
 ⟨(some 73), .ixs 5 (.t 71) (.t 72), none⟩,
 ⟨(some 74), .fld 4 (.t 73), none⟩,
 ⟨(some 75), .ld none (.t 74), none⟩,
 ⟨(some 11), .mv (.t 75), none⟩])
 k10_4

def k10_6 : ACode :=
 .seq (.block 1 (
 .seq (.seq (.drawn [
 (0, ⟨(some 59), .fld 3 (.t 7), none⟩),
 (1, ⟨(some 60), .ld none (.t 59), none⟩),
 (2, ⟨(some 61), .mv (.t 10), none⟩),
 (3, ⟨(some 62), .ixs 5 (.t 60) (.t 61), none⟩),
 (4, ⟨(some 63), .ld (some 5) (.t 62), none⟩),
 (5, ⟨(some 64), .fld 3 (.t 3), none⟩),
 (6, ⟨(some 65), .ld none (.t 64), none⟩),
 (7, ⟨(some 66), .mv (.t 10), none⟩),
 (8, ⟨(some 67), .ixs 5 (.t 65) (.t 66), none⟩),
 (9, ⟨(some 68), .ld (some 5) (.t 67), none⟩),
 (10, ⟨(some 69), .eqs false [0, 0, 0, 0, 0] (.t 63) (.t 68), none⟩)]
 [[], [0], [], [1, 2], [3], [], [5], [], [6, 7], [8], [4, 9]] 0)
 (.cond (.t 69)
 (.exit 1)
 (.skip)))
 k10_5))
 (.region [
 ⟨(some 57), .mv (.t 10), none⟩,
 ⟨(some 58), .bin .add (.t 57) (.c (.int .i64 1)), none⟩,
 ⟨(some 10), .mv (.t 58), none⟩])

def b10_7 : ACode :=
 .seq (.seq (.region [
 ⟨(some 45), .mv (.t 10), none⟩,
 ⟨(some 46), .fld 3 (.t 7), none⟩,
 ⟨(some 47), .ld none (.t 46), none⟩,
 ⟨(some 48), .len false (.t 47), none⟩,
 ⟨(some 49), .bin .lss (.t 45) (.t 48), none⟩,
 ⟨(some 50), .mv (.t 49), none⟩,
 ⟨(some 51), .mv (.t 10), (some (50, true))⟩,
 ⟨(some 52), .fld 3 (.t 3), (some (50, true))⟩,
 ⟨(some 53), .ld none (.t 52), (some (50, true))⟩,
 ⟨(some 54), .len false (.t 53), (some (50, true))⟩,
 ⟨(some 55), .bin .lss (.t 51) (.t 54), (some (50, true))⟩,
 ⟨(some 56), .pick (.t 50) (.t 55) (.c (.bool false)), none⟩])
 (.cond (.t 56)
 (.skip)
 (.exit 0)))
 k10_6

def k10_8 : ACode :=
 .seq (.region [
 ⟨(some 126), .mv (.t 9), none⟩,
 ⟨(some 127), .bin .eql (.t 126) (.c (.int .i64 1)), none⟩,
 ⟨(some 128), .mv (.t 127), none⟩,
 ⟨(some 129), .fld 3 (.t 7), (some (128, true))⟩,
 ⟨(some 130), .ld none (.t 129), (some (128, true))⟩,
 ⟨(some 131), .len false (.t 130), (some (128, true))⟩,
 ⟨(some 132), .fld 3 (.t 3), (some (128, true))⟩,
 ⟨(some 133), .ld none (.t 132), (some (128, true))⟩,
 ⟨(some 134), .len false (.t 133), (some (128, true))⟩,
 ⟨(some 135), .bin .eql (.t 131) (.t 134), (some (128, true))⟩,
 ⟨(some 136), .pick (.t 128) (.t 135) (.c (.bool false)), none⟩,
 ⟨(some 6), .mv (.t 136), none⟩])
 (.ret)

def k10_9 : ACode :=
 .seq (.seq (.region [
 ⟨(some 10), .mv (.c (.int .i64 0)), none⟩])
 (.block 0 (
 .loop b10_7)))
 k10_8

def k10_10 : ACode :=
 .seq (.seq (.region [
 ⟨(some 39), .fld 0 (.t 8), none⟩,
 ⟨(some 40), .ld none (.t 39), none⟩,
 ⟨(some 41), .bin .neq (.t 40) (.c (.int .i64 0)), none⟩])
 (.cond (.t 41)
 k10_2
 (.skip)))
 (.seq (.region [
 ⟨(some 9), .mv (.c (.int .i64 0)), none⟩])
 k10_9)

def k10_11 : ACode :=
 .seq (.region [
 ⟨(some 33), .ld (some 5) (.t 3), none⟩,
 ⟨(some 34), .mv (.t 1), none⟩,
 ⟨(some 35), .ld (some 6) (.t 5), none⟩,
 ⟨(some 36), .call 35 [(.t 33), (.t 34), (.t 35)], none⟩,
 ⟨(some 32), .mv (.t 36), none⟩,
 ⟨(some 37), .ext (.t 32) 0, none⟩,
 ⟨(some 38), .ext (.t 32) 1, none⟩,
 ⟨(some 7), .new [.int .i64 0, .int .i64 0, .int .i64 0, .lit (.slice none 0 0), .lit (.slice none 0 0)], none⟩,
 ⟨(some 8), .new [.int .i64 0, .int .u64 0, .int .i64 0], none⟩,
 ⟨none, .st 5 (.t 7) (.t 37), none⟩,
 ⟨none, .st 3 (.t 8) (.t 38), none⟩])
 k10_10

def k10_12 : ACode :=
 .seq (.seq (.region [
 ⟨(some 14), .ld (some 5) (.t 3), none⟩,
 ⟨(some 15), .ld (some 6) (.t 5), none⟩,
 ⟨(some 16), .call 36 [(.t 14), (.t 15)], none⟩,
 ⟨(some 17), .mv (.t 16), none⟩,
 ⟨(some 18), .ld (some 5) (.t 3), (some (17, false))⟩,
 ⟨(some 19), .call 15 [(.t 18)], (some (17, false))⟩,
 ⟨(some 20), .un .not (.t 19), (some (17, false))⟩,
 ⟨(some 21), .pick (.t 17) (.c (.bool true)) (.t 20), none⟩,
 ⟨(some 22), .mv (.t 21), none⟩,
 ⟨(some 23), .fld 0 (.t 5), (some (22, false))⟩,
 ⟨(some 24), .ld none (.t 23), (some (22, false))⟩,
 ⟨(some 25), .bin .neq (.t 24) (.c (.int .i64 2)), (some (22, false))⟩,
 ⟨(some 26), .mv (.t 25), (some (22, false))⟩,
 ⟨(some 27), .fld 0 (.t 5), (some (26, true))⟩,
 ⟨(some 28), .ld none (.t 27), (some (26, true))⟩,
 ⟨(some 29), .bin .neq (.t 28) (.c (.int .i64 3)), (some (26, true))⟩,
 ⟨(some 30), .pick (.t 26) (.t 29) (.c (.bool false)), (some (22, false))⟩,
 ⟨(some 31), .pick (.t 22) (.c (.bool true)) (.t 30), none⟩])
 k10_1)
 k10_11

def k10_13 : ACode :=
 .seq (.seq (.region [
 ⟨(some 12), .call 30 [], none⟩,
 ⟨(some 13), .un .not (.t 12), none⟩])
 k10_0)
 k10_12

def c10 : ACode :=
 .seq (.region [
 ⟨(some 3), .box (.t 0), none⟩,
 ⟨(some 5), .box (.t 2), none⟩,
 ⟨(some 6), .mv (.c (.bool false)), none⟩])
 k10_13
theorem ok10 : fnOk Try.prog 10 c10 137 [.t 6] = true := by kernel_rfl

def k30_0 : ACode :=
 .seq (.region [
 ⟨(some 13), .ld (some 3) (.t 2), none⟩,
 ⟨(some 14), .build [.int .i64 0, .int .u64 0, .int .i64 0] [], none⟩,
 ⟨(some 15), .eqs false [0, 0, 0] (.t 13) (.t 14), none⟩,
 ⟨(some 16), .mv (.t 15), none⟩,
 ⟨(some 17), .fld 3 (.t 1), (some (16, true))⟩,
 ⟨(some 18), .ld none (.t 17), (some (16, true))⟩,
 ⟨(some 19), .len false (.t 18), (some (16, true))⟩,
 ⟨(some 20), .bin .eql (.t 19) (.c (.int .i64 32)), (some (16, true))⟩,
 ⟨(some 21), .pick (.t 16) (.t 20) (.c (.bool false)), none⟩,
 ⟨(some 22), .mv (.t 21), none⟩,
 ⟨(some 23), .fld 3 (.t 1), (some (22, true))⟩,
 ⟨(some 24), .ld none (.t 23), (some (22, true))⟩,
 ⟨(some 25), .ixs 5 (.t 24) (.c (.int .i64 2)), (some (22, true))⟩,
 ⟨(some 26), .ld (some 5) (.t 25), (some (22, true))⟩,
 ⟨(some 27), .build [.int .i64 0, .int .i64 0, .int .i64 0, .int .i64 0] [(0, 1, (.c (.int .i64 3))), (1, 1, (.c (.int .i64 1))), (2, 1, (.c (.int .i64 1)))], (some (22, true))⟩,
 ⟨(some 28), .build [.int .i64 0, .int .i64 0, .int .i64 0, .int .i64 0, .int .i64 0] [(0, 4, (.t 27)), (4, 1, (.c (.int .i64 1)))], (some (22, true))⟩,
 ⟨(some 29), .eqs false [0, 0, 0, 0, 0] (.t 26) (.t 28), (some (22, true))⟩,
 ⟨(some 30), .pick (.t 22) (.t 29) (.c (.bool false)), none⟩,
 ⟨(some 0), .mv (.t 30), none⟩])
 (.ret)

def k30_1 : ACode :=
 .seq (.region [
 ⟨(some 4), .call 31 [], none⟩,
 ⟨(some 5), .bsl 1 1 [.int .i64 0] [(0, (.c (.int .i64 1)))], none⟩,
 ⟨(some 6), .call 33 [(.t 5)], none⟩,
 ⟨(some 7), .bsl 1 1 [.int .i64 0] [(0, (.c (.int .i64 2)))], none⟩,
 ⟨(some 8), .call 33 [(.t 7)], none⟩,
 ⟨(some 9), .build [.int .i64 0, .lit (.slice none 0 0), .lit (.slice none 0 0), .int .i64 0, .int .i64 0, .int .u64 0] [(0, 1, (.c (.int .i64 2))), (1, 1, (.t 6)), (2, 1, (.t 8)), (3, 1, (.c (.int .i64 1)))], none⟩,
 ⟨(some 10), .call 35 [(.t 4), (.c (.int .i64 0)), (.t 9)], none⟩,
 ⟨(some 3), .mv (.t 10), none⟩,
 ⟨(some 11), .ext (.t 3) 0, none⟩,
 ⟨(some 12), .ext (.t 3) 1, none⟩,
 ⟨(some 1), .new [.int .i64 0, .int .i64 0, .int .i64 0, .lit (.slice none 0 0), .lit (.slice none 0 0)], none⟩,
 ⟨(some 2), .new [.int .i64 0, .int .u64 0, .int .i64 0], none⟩,
 ⟨none, .st 5 (.t 1) (.t 11), none⟩,
 ⟨none, .st 3 (.t 2) (.t 12), none⟩])
 k30_0

def c30 : ACode :=
 .seq (.region [
 ⟨(some 0), .mv (.c (.bool false)), none⟩])
 k30_1
theorem ok30 : fnOk Try.prog 30 c30 31 [.t 0] = true := by kernel_rfl

def k31_0 : ACode :=
 .seq (.region [
 ⟨(some 4), .call 54 [], none⟩,
 ⟨(some 5), .call 53 [(.t 4), (.c (.int .i64 64))], none⟩,
 ⟨(some 3), .mv (.t 5), none⟩,
 ⟨(some 6), .ext (.t 3) 0, none⟩,
 ⟨(some 7), .ext (.t 3) 1, none⟩,
 ⟨(some 1), .new [.int .i64 0, .int .i64 0, .int .i64 0, .lit (.slice none 0 0), .lit (.slice none 0 0)], none⟩,
 ⟨none, .st 5 (.t 1) (.t 6), none⟩,
 ⟨(some 2), .mv (.t 7), none⟩])
 (.seq (.region [
 ⟨(some 8), .ld (some 5) (.t 1), none⟩,
 ⟨none, .st 5 (.t 0) (.t 8), none⟩])
 (.ret))

def c31 : ACode :=
 .seq (.region [
 ⟨(some 0), .new [.int .i64 0, .int .i64 0, .int .i64 0, .lit (.slice none 0 0), .lit (.slice none 0 0)], none⟩])
 k31_0
theorem ok31 : fnOk Try.prog 31 c31 9 [.c 0 (some 5)] = true := by kernel_rfl

def k32_0 : ACode :=
 .seq (.drawn [
 (0, ⟨(some 27), .ld (some 5) (.t 14), none⟩),
 (1, ⟨(some 28), .fld 0 (.t 15), none⟩),
 (2, ⟨(some 29), .ld none (.t 28), none⟩),
 (3, ⟨none, .st 5 (.t 12) (.t 27), none⟩),
 (4, ⟨(some 13), .mv (.t 29), none⟩)]
 [[], [], [1], [0, 0], [2, 3, 0, 1, 2, 3]] 0)
 (.ret)

def k32_1 : ACode :=
 .seq (.region [
 ⟨(some 17), .ld (some 5) (.t 6), none⟩,
 ⟨(some 18), .mv (.t 1), none⟩,
 ⟨(some 19), .ld (some 1) (.t 8), none⟩,
 ⟨(some 20), .ld (some 1) (.t 9), none⟩,
 ⟨(some 21), .mv (.t 4), none⟩,
 ⟨(some 22), .mv (.t 5), none⟩,
 ⟨(some 23), .build [.int .i64 0, .lit (.slice none 0 0), .lit (.slice none 0 0), .int .i64 0, .int .i64 0, .int .u64 0] [(0, 1, (.t 18)), (1, 1, (.t 19)), (2, 1, (.t 20)), (3, 1, (.t 21)), (4, 1, (.t 22))], none⟩,
 ⟨(some 24), .call 35 [(.t 17), (.c (.int .i64 0)), (.t 23)], none⟩,
 ⟨(some 16), .mv (.t 24), none⟩,
 ⟨(some 25), .ext (.t 16) 0, none⟩,
 ⟨(some 26), .ext (.t 16) 1, none⟩,
 ⟨(some 14), .new [.int .i64 0, .int .i64 0, .int .i64 0, .lit (.slice none 0 0), .lit (.slice none 0 0)], none⟩,
 ⟨(some 15), .new [.int .i64 0, .int .u64 0, .int .i64 0], none⟩,
 ⟨none, .st 5 (.t 14) (.t 25), none⟩,
 ⟨none, .st 3 (.t 15) (.t 26), none⟩])
 k32_0

def c32 : ACode :=
 .seq (.region [
 ⟨(some 6), .box (.t 0), none⟩,
 ⟨(some 8), .box (.t 2), none⟩,
 ⟨(some 9), .box (.t 3), none⟩,
 ⟨(some 12), .new [.int .i64 0, .int .i64 0, .int .i64 0, .lit (.slice none 0 0), .lit (.slice none 0 0)], none⟩,
 ⟨(some 13), .mv (.c (.int .i64 0)), none⟩])
 k32_1
theorem ok32 : fnOk Try.prog 32 c32 30 [.c 12 (some 5), .t 13] = true := by kernel_rfl

def k33_0 : ACode :=
 .seq (.region [
 ⟨(some 3), .mv (.t 0), none⟩,
 ⟨(some 4), .build [.lit (.slice none 0 0)] [(0, 1, (.t 3))], none⟩,
 ⟨none, .st 1 (.t 2) (.t 4), none⟩])
 (.ret)

def c33 : ACode :=
 .seq (.region [
 ⟨(some 2), .new [.lit (.slice none 0 0)], none⟩])
 k33_0
theorem ok33 : fnOk Try.prog 33 c33 5 [.c 2 (some 1)] = true := by kernel_rfl

def k36_0 : ACode :=
 .seq (.region [
 ⟨(some 5), .fld 3 (.t 2), none⟩,
 ⟨(some 6), .ld none (.t 5), none⟩,
 ⟨(some 7), .len false (.t 6), none⟩,
 ⟨(some 8), .bin .gtr (.t 7) (.c (.int .i64 100)), none⟩,
 ⟨(some 9), .mv (.t 8), none⟩,
 ⟨(some 10), .fld 4 (.t 2), (some (9, false))⟩,
 ⟨(some 11), .ld none (.t 10), (some (9, false))⟩,
 ⟨(some 12), .len false (.t 11), (some (9, false))⟩,
 ⟨(some 13), .bin .gtr (.t 12) (.c (.int .i64 50)), (some (9, false))⟩,
 ⟨(some 14), .pick (.t 9) (.c (.bool true)) (.t 13), none⟩,
 ⟨(some 15), .mv (.t 14), none⟩,
 ⟨(some 16), .fld 1 (.t 3), (some (15, false))⟩,
 ⟨(some 17), .fld 0 (.t 16), (some (15, false))⟩,
 ⟨(some 18), .ld none (.t 17), (some (15, false))⟩,
 ⟨(some 19), .len false (.t 18), (some (15, false))⟩,
 ⟨(some 20), .bin .gtr (.t 19) (.c (.int .i64 10)), (some (15, false))⟩,
 ⟨(some 21), .pick (.t 15) (.c (.bool true)) (.t 20), none⟩,
 ⟨(some 22), .mv (.t 21), none⟩,
 ⟨(some 23), .fld 2 (.t 3), (some (22, false))⟩,
 ⟨(some 24), .fld 0 (.t 23), (some (22, false))⟩,
 ⟨(some 25), .ld none (.t 24), (some (22, false))⟩,
 ⟨(some 26), .len false (.t 25), (some (22, false))⟩,
 ⟨(some 27), .bin .gtr (.t 26) (.c (.int .i64 10)), (some (22, false))⟩,
 ⟨(some 28), .pick (.t 22) (.c (.bool true)) (.t 27), none⟩,
 ⟨(some 4), .mv (.t 28), none⟩])
 (.ret)

def c36 : ACode :=
 .seq (.region [
 ⟨(some 2), .box (.t 0), none⟩,
 ⟨(some 3), .box (.t 1), none⟩,
 ⟨(some 4), .mv (.c (.bool false)), none⟩])
 k36_0
theorem ok36 : fnOk Try.prog 36 c36 29 [.t 4] = true := by kernel_rfl

end Go.Proofs.Ytipigjckoejfpaa.Ax
