/- The code of functions of the program, for our abstract machine; each is tied to the program by a closed test. Written by gen.py. Conditions: none. -/
import Derived.Test.YtcdihghokoinhaaAxEnter
import Derived.Test.YtcdihghokoinhaaProg
import Derived.KernelRfl
namespace Go.Proofs.Ytcdihghokoinhaa.Ax
open Go Go.Ax
set_option maxRecDepth 100000

/-- A part of reeve/reevelaw7.RightTexts. -/
def k3_0 : ACode :=
  .seq (.region [
    ⟨(some 15), .mv (.t 0), none⟩,
    ⟨(some 16), .call 17 [(.t 15)], none⟩,
    ⟨(some 17), .mv (.t 16), none⟩,
    ⟨(some 18), .mv (.t 0), (some (17, false))⟩,
    ⟨(some 19), .call 18 [(.t 18)], (some (17, false))⟩,
    ⟨(some 20), .sbin .eql (.t 19) (.c (.str [45])), (some (17, false))⟩,
    ⟨(some 21), .pick (.t 17) (.c (.bool true)) (.t 20), none⟩,
    ⟨(some 4), .mv (.t 21), none⟩])
  (.ret)

/-- A part of reeve/reevelaw7.RightTexts. -/
def k3_1 : ACode :=
  .seq (.region [
    ⟨(some 22), .mv (.t 0), none⟩,
    ⟨(some 23), .call 18 [(.t 22)], none⟩,
    ⟨(some 24), .mv (.t 1), none⟩,
    ⟨(some 25), .call 18 [(.t 24)], none⟩,
    ⟨(some 26), .sbin .eql (.t 23) (.t 25), none⟩,
    ⟨(some 27), .mv (.t 0), none⟩,
    ⟨(some 28), .mv (.t 1), none⟩,
    ⟨(some 29), .bin .eql (.t 27) (.t 28), none⟩,
    ⟨(some 30), .eqb false (.t 26) (.t 29), none⟩,
    ⟨(some 31), .mv (.t 30), none⟩,
    ⟨(some 32), .mv (.t 0), (some (31, true))⟩,
    ⟨(some 33), .mv (.t 1), (some (31, true))⟩,
    ⟨(some 34), .call 19 [(.t 32), (.t 33)], (some (31, true))⟩,
    ⟨(some 35), .mv (.t 0), (some (31, true))⟩,
    ⟨(some 36), .mv (.t 1), (some (31, true))⟩,
    ⟨(some 37), .call 20 [(.t 35), (.t 36)], (some (31, true))⟩,
    ⟨(some 38), .bin .add (.t 34) (.t 37), (some (31, true))⟩,
    ⟨(some 39), .mv (.t 0), (some (31, true))⟩,
    ⟨(some 40), .bin .eql (.t 38) (.t 39), (some (31, true))⟩,
    ⟨(some 41), .pick (.t 31) (.t 40) (.c (.bool false)), none⟩,
    ⟨(some 42), .mv (.t 41), none⟩,
    ⟨(some 43), .mv (.t 0), (some (42, true))⟩,
    ⟨(some 44), .mv (.t 1), (some (42, true))⟩,
    ⟨(some 45), .call 19 [(.t 43), (.t 44)], (some (42, true))⟩,
    ⟨(some 46), .mv (.t 1), (some (42, true))⟩,
    ⟨(some 47), .call 20 [(.t 45), (.t 46)], (some (42, true))⟩,
    ⟨(some 48), .bin .eql (.t 47) (.c (.int .i64 0)), (some (42, true))⟩,
    ⟨(some 49), .pick (.t 42) (.t 48) (.c (.bool false)), none⟩,
    ⟨(some 4), .mv (.t 49), none⟩])
  (.ret)

/-- A part of reeve/reevelaw7.RightTexts. -/
def k3_2 : ACode :=
  .seq (.seq (.region [
    ⟨(some 7), .mv (.t 0), none⟩,
    ⟨(some 8), .call 17 [(.t 7)], none⟩,
    ⟨(some 9), .un .not (.t 8), none⟩,
    ⟨(some 10), .mv (.t 9), none⟩,
    ⟨(some 11), .mv (.t 1), (some (10, false))⟩,
    ⟨(some 12), .call 17 [(.t 11)], (some (10, false))⟩,
    ⟨(some 13), .un .not (.t 12), (some (10, false))⟩,
    ⟨(some 14), .pick (.t 10) (.c (.bool true)) (.t 13), none⟩])
  (.cond (.t 14)
    k3_0
    (.skip)))
  k3_1

/-- reeve/reevelaw7.RightTexts -/
def c3 : ACode :=
  .seq (.region [
    ⟨(some 4), .mv (.c (.bool false)), none⟩])
  (.seq (.seq (.region [
    ⟨(some 5), .call 16 [], none⟩,
    ⟨(some 6), .un .not (.t 5), none⟩])
  (.cond (.t 6)
    (.seq (.region [
      ⟨(some 4), .mv (.c (.bool false)), none⟩])
    (.ret))
    (.skip)))
  k3_2)
theorem ok3 : fnOk Try.prog 3 c3 50 [.t 4] = true := by kernel_rfl

/-- A part of reeve/reevelaw2.RowKnown. -/
def k4_0 : ACode :=
  .seq (.drawn [
    ⟨(some 52), .mv (.t 2), none⟩,
    ⟨(some 53), .un .not (.t 52), none⟩,
    ⟨(some 54), .mv (.t 53), none⟩,
    ⟨(some 55), .mv (.t 3), (some (54, true))⟩,
    ⟨(some 56), .un .not (.t 55), (some (54, true))⟩,
    ⟨(some 57), .pick (.t 54) (.t 56) (.c (.bool false)), none⟩,
    ⟨(some 58), .mv (.t 57), none⟩,
    ⟨(some 59), .mv (.t 4), (some (58, true))⟩,
    ⟨(some 60), .un .not (.t 59), (some (58, true))⟩,
    ⟨(some 61), .pick (.t 58) (.t 60) (.c (.bool false)), none⟩,
    ⟨(some 62), .mv (.t 61), none⟩,
    ⟨(some 63), .mv (.t 5), (some (62, true))⟩,
    ⟨(some 64), .un .not (.t 63), (some (62, true))⟩,
    ⟨(some 65), .pick (.t 62) (.t 64) (.c (.bool false)), none⟩,
    ⟨(some 66), .mv (.t 65), none⟩,
    ⟨(some 67), .mv (.t 6), (some (66, true))⟩,
    ⟨(some 68), .un .not (.t 67), (some (66, true))⟩,
    ⟨(some 69), .pick (.t 66) (.t 68) (.c (.bool false)), none⟩,
    ⟨(some 70), .mv (.t 69), none⟩,
    ⟨(some 71), .mv (.t 7), (some (70, true))⟩,
    ⟨(some 72), .un .not (.t 71), (some (70, true))⟩,
    ⟨(some 73), .pick (.t 70) (.t 72) (.c (.bool false)), none⟩,
    ⟨(some 74), .mv (.t 73), none⟩,
    ⟨(some 75), .mv (.t 8), (some (74, true))⟩,
    ⟨(some 76), .pick (.t 74) (.t 75) (.c (.bool false)), none⟩,
    ⟨(some 77), .mv (.t 76), none⟩,
    ⟨(some 78), .mv (.t 9), (some (77, true))⟩,
    ⟨(some 79), .un .not (.t 78), (some (77, true))⟩,
    ⟨(some 80), .pick (.t 77) (.t 79) (.c (.bool false)), none⟩,
    ⟨(some 81), .mv (.t 80), none⟩,
    ⟨(some 82), .mv (.t 10), (some (81, true))⟩,
    ⟨(some 83), .pick (.t 81) (.t 82) (.c (.bool false)), none⟩,
    ⟨(some 84), .mv (.t 83), none⟩,
    ⟨(some 85), .mv (.t 11), (some (84, true))⟩,
    ⟨(some 86), .pick (.t 84) (.t 85) (.c (.bool false)), none⟩,
    ⟨(some 87), .mv (.t 86), none⟩,
    ⟨(some 88), .mv (.t 1), (some (87, true))⟩,
    ⟨(some 89), .nck (.t 88), (some (87, true))⟩,
    ⟨(some 90), .fld 0 (.t 89), (some (87, true))⟩,
    ⟨(some 91), .ld (some 8) (.t 90), (some (87, true))⟩,
    ⟨(some 92), .build [.int .u64 0, .int .u64 0, .int .u64 0, .int .u64 0, .int .u64 0, .int .u64 0, .int .u64 0, .int .u64 0] [(0, 1, (.c (.int .u64 5))), (1, 1, (.c (.int .u64 6))), (2, 1, (.c (.int .u64 1)))], (some (87, true))⟩,
    ⟨(some 93), .eqs false [0, 0, 0, 0, 0, 0, 0, 0] (.t 91) (.t 92), (some (87, true))⟩,
    ⟨(some 94), .pick (.t 87) (.t 93) (.c (.bool false)), none⟩,
    ⟨(some 95), .mv (.t 94), none⟩,
    ⟨(some 96), .mv (.t 1), (some (95, true))⟩,
    ⟨(some 97), .nck (.t 96), (some (95, true))⟩,
    ⟨(some 98), .fld 8 (.t 97), (some (95, true))⟩,
    ⟨(some 99), .ld (some 8) (.t 98), (some (95, true))⟩,
    ⟨(some 100), .mv (.t 1), (some (95, true))⟩,
    ⟨(some 101), .nck (.t 100), (some (95, true))⟩,
    ⟨(some 102), .fld 0 (.t 101), (some (95, true))⟩,
    ⟨(some 103), .ld (some 8) (.t 102), (some (95, true))⟩,
    ⟨(some 104), .eqs false [0, 0, 0, 0, 0, 0, 0, 0] (.t 99) (.t 103), (some (95, true))⟩,
    ⟨(some 105), .pick (.t 95) (.t 104) (.c (.bool false)), none⟩,
    ⟨(some 106), .mv (.t 105), none⟩,
    ⟨(some 107), .mv (.t 1), (some (106, true))⟩,
    ⟨(some 108), .nck (.t 107), (some (106, true))⟩,
    ⟨(some 109), .fld 16 (.t 108), (some (106, true))⟩,
    ⟨(some 110), .ld none (.t 109), (some (106, true))⟩,
    ⟨(some 111), .un .not (.t 110), (some (106, true))⟩,
    ⟨(some 112), .pick (.t 106) (.t 111) (.c (.bool false)), none⟩,
    ⟨(some 113), .mv (.t 112), none⟩,
    ⟨(some 114), .mv (.t 1), (some (113, true))⟩,
    ⟨(some 115), .nck (.t 114), (some (113, true))⟩,
    ⟨(some 116), .fld 17 (.t 115), (some (113, true))⟩,
    ⟨(some 117), .ld none (.t 116), (some (113, true))⟩,
    ⟨(some 118), .un .not (.t 117), (some (113, true))⟩,
    ⟨(some 119), .pick (.t 113) (.t 118) (.c (.bool false)), none⟩,
    ⟨(some 120), .mv (.t 119), none⟩,
    ⟨(some 121), .mv (.t 1), (some (120, true))⟩,
    ⟨(some 122), .call 27 [(.t 121), (.c (.int .i64 8))], (some (120, true))⟩,
    ⟨(some 123), .bin .eql (.t 122) (.c (.int .u64 0)), (some (120, true))⟩,
    ⟨(some 124), .pick (.t 120) (.t 123) (.c (.bool false)), none⟩,
    ⟨(some 125), .mv (.t 124), none⟩,
    ⟨(some 126), .mv (.t 1), (some (125, true))⟩,
    ⟨(some 127), .call 27 [(.t 126), (.c (.int .i64 (-1)))], (some (125, true))⟩,
    ⟨(some 128), .bin .eql (.t 127) (.c (.int .u64 0)), (some (125, true))⟩,
    ⟨(some 129), .pick (.t 125) (.t 128) (.c (.bool false)), none⟩,
    ⟨(some 0), .mv (.t 129), none⟩]
  [[], [0], [1], [2], [3, 2], [2, 4], [5, 2], [6], [7, 6], [6, 8], [9, 6], [10], [11, 10], [10, 12], [13, 10], [14], [15, 14], [14, 16], [17, 14], [18], [19, 18], [18, 20], [21, 18], [22], [22, 23], [24, 22], [25], [26, 25], [25, 27], [28, 25], [29], [29, 30], [31, 29], [32], [32, 33], [34, 32], [35], [36, 35], [37, 35], [38, 35], [35], [39, 40, 35], [35, 41], [42, 35], [43], [44, 43], [45, 43], [46, 43], [43], [48, 43], [49, 43], [50, 43], [47, 51, 43], [43, 52], [53, 43], [54], [55, 54], [56, 54], [57, 54], [58, 54], [54, 59], [60, 54], [61], [62, 61], [63, 61], [64, 61], [65, 61], [61, 66], [67, 61], [68], [69, 68, 68], [70, 68], [68, 71], [72, 70], [73], [74, 73, 73], [75, 73], [73, 76], [77, 75, 0, 1, 2, 3, 4, 5, 6, 7, 8, 9, 10, 11, 12, 13, 14, 15, 16, 17, 18, 19, 20, 21, 22, 23, 24, 25, 26, 27, 28, 29, 30, 31, 32, 33, 34, 35, 36, 37, 38, 39, 40, 41, 42, 43, 44, 45, 46, 47, 48, 49, 50, 51, 52, 53, 54, 55, 56, 57, 58, 59, 60, 61, 62, 63, 64, 65, 66, 67, 68, 69, 70, 71, 72, 73, 74, 75, 76, 77]]
  [0, 1, 2, 3, 4, 5, 6, 7, 8, 9, 10, 11, 12, 13, 14, 15, 16, 17, 18, 19, 20, 21, 22, 23, 24, 25, 26, 27, 28, 29, 30, 31, 32, 33, 34, 35, 36, 37, 38, 39, 40, 41, 42, 43, 44, 45, 46, 47, 48, 49, 50, 51, 52, 53, 54, 55, 56, 57, 58, 59, 60, 61, 62, 63, 64, 65, 66, 67, 68, 69, 70, 71, 72, 73, 74, 75, 76, 77, 78])
  (.ret)

/-- A part of reeve/reevelaw2.RowKnown. -/
def k4_1 : ACode :=
  .seq (.region [
    ⟨(some 48), .mv (.t 1), none⟩,
    ⟨(some 49), .call 22 [(.t 48), (.c (.int .i64 2)), (.c (.int .u64 1))], none⟩])
  (.seq (.region [
    ⟨(some 50), .mv (.t 1), none⟩,
    ⟨(some 51), .call 25 [(.t 50), (.c (.bool true))], none⟩,
    ⟨(some 11), .mv (.t 51), none⟩])
  k4_0)

/-- A part of reeve/reevelaw2.RowKnown. -/
def k4_2 : ACode :=
  .seq (.region [
    ⟨(some 44), .mv (.t 1), none⟩,
    ⟨(some 45), .call 22 [(.t 44), (.c (.int .i64 2)), (.c (.int .u64 9))], none⟩])
  (.seq (.region [
    ⟨(some 46), .mv (.t 1), none⟩,
    ⟨(some 47), .call 26 [(.t 46)], none⟩,
    ⟨(some 10), .mv (.t 47), none⟩])
  k4_1)

/-- A part of reeve/reevelaw2.RowKnown. -/
def k4_3 : ACode :=
  .seq (.region [
    ⟨(some 40), .mv (.t 1), none⟩,
    ⟨(some 41), .call 23 [(.t 40)], none⟩,
    ⟨(some 8), .mv (.t 41), none⟩])
  (.seq (.region [
    ⟨(some 42), .mv (.t 1), none⟩,
    ⟨(some 43), .call 25 [(.t 42), (.c (.bool true))], none⟩,
    ⟨(some 9), .mv (.t 43), none⟩])
  k4_2)

/-- A part of reeve/reevelaw2.RowKnown. -/
def k4_4 : ACode :=
  .seq (.region [
    ⟨(some 34), .mv (.t 1), none⟩,
    ⟨(some 35), .call 22 [(.t 34), (.c (.int .i64 1)), (.c (.int .u64 6))], none⟩])
  (.seq (.region [
    ⟨(some 36), .mv (.t 1), none⟩,
    ⟨(some 37), .call 23 [(.t 36)], none⟩,
    ⟨(some 7), .mv (.t 37), none⟩])
  (.seq (.region [
    ⟨(some 38), .mv (.t 1), none⟩,
    ⟨(some 39), .call 24 [(.t 38)], none⟩])
  k4_3))

/-- A part of reeve/reevelaw2.RowKnown. -/
def k4_5 : ACode :=
  .seq (.region [
    ⟨(some 28), .mv (.t 1), none⟩,
    ⟨(some 29), .call 22 [(.t 28), (.c (.int .i64 0)), (.c (.int .u64 5))], none⟩])
  (.seq (.region [
    ⟨(some 30), .mv (.t 1), none⟩,
    ⟨(some 31), .call 23 [(.t 30)], none⟩,
    ⟨(some 6), .mv (.t 31), none⟩])
  (.seq (.region [
    ⟨(some 32), .mv (.t 1), none⟩,
    ⟨(some 33), .call 24 [(.t 32)], none⟩])
  k4_4))

/-- A part of reeve/reevelaw2.RowKnown. -/
def k4_6 : ACode :=
  .seq (.region [
    ⟨(some 22), .mv (.t 1), none⟩,
    ⟨(some 23), .call 24 [(.t 22)], none⟩])
  (.seq (.region [
    ⟨(some 24), .mv (.t 1), none⟩,
    ⟨(some 25), .nck (.t 24), none⟩,
    ⟨(some 26), .fld 17 (.t 25), none⟩,
    ⟨(some 27), .ld none (.t 26), none⟩,
    ⟨(some 5), .mv (.t 27), none⟩])
  k4_5)

/-- A part of reeve/reevelaw2.RowKnown. -/
def k4_7 : ACode :=
  .seq (.region [
    ⟨(some 16), .mv (.t 1), none⟩,
    ⟨(some 17), .call 22 [(.t 16), (.c (.int .i64 8)), (.c (.int .u64 1))], none⟩,
    ⟨(some 18), .mv (.t 1), none⟩,
    ⟨(some 19), .call 22 [(.t 18), (.c (.int .i64 (-1))), (.c (.int .u64 1))], none⟩,
    ⟨(some 20), .mv (.t 1), none⟩,
    ⟨(some 21), .call 23 [(.t 20)], none⟩,
    ⟨(some 2), .mv (.t 17), none⟩,
    ⟨(some 3), .mv (.t 19), none⟩,
    ⟨(some 4), .mv (.t 21), none⟩])
  k4_6

/-- A part of reeve/reevelaw2.RowKnown. -/
def k4_8 : ACode :=
  .seq (.region [
    ⟨(some 14), .build [.int .u64 0, .int .u64 0, .int .u64 0, .int .u64 0, .int .u64 0, .int .u64 0, .int .u64 0, .int .u64 0, .int .u64 0, .int .u64 0, .int .u64 0, .int .u64 0, .int .u64 0, .int .u64 0, .int .u64 0, .int .u64 0, .bool false, .bool false] [], none⟩,
    ⟨(some 15), .box (.t 14), none⟩,
    ⟨(some 1), .mv (.t 15), none⟩])
  k4_7

/-- reeve/reevelaw2.RowKnown -/
def c4 : ACode :=
  .seq (.region [
    ⟨(some 0), .mv (.c (.bool false)), none⟩])
  (.seq (.seq (.region [
    ⟨(some 12), .call 21 [], none⟩,
    ⟨(some 13), .un .not (.t 12), none⟩])
  (.cond (.t 13)
    (.seq (.region [
      ⟨(some 0), .mv (.c (.bool false)), none⟩])
    (.ret))
    (.skip)))
  k4_8)
theorem ok4 : fnOk Try.prog 4 c4 130 [.t 0] = true := by kernel_rfl

/-- A part of reeve/reevelaw2.RowPlays. -/
def k5_0 : ACode :=
  .drawn [
    ⟨(some 50), .mv (.t 5), none⟩,
    ⟨(some 51), .fld 1 (.t 8), none⟩,
    ⟨(some 52), .ld none (.t 51), none⟩,
    ⟨(some 53), .fld 2 (.t 8), none⟩,
    ⟨(some 54), .ld none (.t 53), none⟩,
    ⟨(some 55), .call 22 [(.t 50), (.t 52), (.t 54)], none⟩,
    ⟨(some 56), .mv (.t 6), none⟩,
    ⟨(some 57), .fld 1 (.t 8), none⟩,
    ⟨(some 58), .ld none (.t 57), none⟩,
    ⟨(some 59), .fld 2 (.t 8), none⟩,
    ⟨(some 60), .ld none (.t 59), none⟩,
    ⟨(some 61), .call 28 [(.t 56), (.t 58), (.t 60)], none⟩,
    ⟨(some 62), .eqb false (.t 55) (.t 61), none⟩,
    ⟨(some 9), .mv (.t 62), none⟩]
  [[], [], [1], [], [3], [0, 2, 4], [], [], [7], [], [9], [6, 8, 10, 5], [5, 11], [12, 11, 0, 1, 2, 3, 4, 5, 6, 7, 8, 9, 10, 11, 12]]
  [0, 1, 2, 3, 4, 6, 7, 8, 9, 10, 5, 11, 12, 13]

/-- A part of reeve/reevelaw2.RowPlays. -/
def k5_1 : ACode :=
  .region [
    ⟨(some 71), .mv (.t 5), none⟩,
    ⟨(some 72), .call 23 [(.t 71)], none⟩,
    ⟨(some 73), .mv (.t 6), none⟩,
    ⟨(some 74), .call 30 [(.t 73)], none⟩,
    ⟨(some 75), .eqb false (.t 72) (.t 74), none⟩,
    ⟨(some 9), .mv (.t 75), none⟩]

/-- A part of reeve/reevelaw2.RowPlays. -/
def k5_2 : ACode :=
  .region [
    ⟨(some 78), .mv (.t 5), none⟩,
    ⟨(some 79), .call 26 [(.t 78)], none⟩,
    ⟨(some 80), .mv (.t 6), none⟩,
    ⟨(some 81), .call 31 [(.t 80)], none⟩,
    ⟨(some 82), .eqb false (.t 79) (.t 81), none⟩,
    ⟨(some 9), .mv (.t 82), none⟩]

/-- A part of reeve/reevelaw2.RowPlays. -/
def k5_3 : ACode :=
  .drawn [
    ⟨(some 37), .mv (.t 5), none⟩,
    ⟨(some 38), .fld 0 (.t 8), none⟩,
    ⟨(some 39), .ld none (.t 38), none⟩,
    ⟨(some 40), .bin .eql (.t 39) (.c (.int .i64 4)), none⟩,
    ⟨(some 41), .call 25 [(.t 37), (.t 40)], none⟩,
    ⟨(some 42), .mv (.t 6), none⟩,
    ⟨(some 43), .fld 0 (.t 8), none⟩,
    ⟨(some 44), .ld none (.t 43), none⟩,
    ⟨(some 45), .bin .eql (.t 44) (.c (.int .i64 4)), none⟩,
    ⟨(some 46), .call 32 [(.t 42), (.t 45)], none⟩,
    ⟨(some 47), .eqb false (.t 41) (.t 46), none⟩,
    ⟨(some 9), .mv (.t 47), none⟩]
  [[], [], [1], [2], [0, 3], [], [], [6], [7], [5, 8, 4], [4, 9], [10, 9, 0, 1, 2, 3, 4, 5, 6, 7, 8, 9, 10]]
  [0, 1, 2, 3, 5, 6, 7, 8, 4, 9, 10, 11]

/-- A part of reeve/reevelaw2.RowPlays. -/
def k5_4 : ACode :=
  .seq (.region [
    ⟨(some 70), .bin .eql (.t 36) (.c (.int .i64 2)), none⟩,
    ⟨(some 69), .mv (.t 70), none⟩])
  (.cond (.t 69)
    k5_1
    (.seq (.region [
      ⟨(some 77), .bin .eql (.t 36) (.c (.int .i64 3)), none⟩,
      ⟨(some 76), .mv (.t 77), none⟩])
    (.cond (.t 76)
      k5_2
      k5_3)))

/-- A part of reeve/reevelaw2.RowPlays. -/
def k5_5 : ACode :=
  .cond (.t 63)
    (.seq (.region [
      ⟨(some 65), .mv (.t 5), none⟩,
      ⟨(some 66), .call 24 [(.t 65)], none⟩])
    (.region [
      ⟨(some 67), .mv (.t 6), none⟩,
      ⟨(some 68), .call 29 [(.t 67)], none⟩]))
    k5_4

/-- A part of reeve/reevelaw2.RowPlays. -/
def k5_6 : ACode :=
  .block 2 (
    .seq (.region [
      ⟨(some 49), .bin .eql (.t 36) (.c (.int .i64 0)), none⟩,
      ⟨(some 48), .mv (.t 49), none⟩])
    (.cond (.t 48)
      k5_0
      (.seq (.region [
        ⟨(some 64), .bin .eql (.t 36) (.c (.int .i64 1)), none⟩,
        ⟨(some 63), .mv (.t 64), none⟩])
      k5_5)))

/-- A part of reeve/reevelaw2.RowPlays. -/
def k5_7 : ACode :=
  .seq (.drawn [
    ⟨(some 83), .mv (.t 9), none⟩,
    ⟨(some 84), .un .not (.t 83), none⟩,
    ⟨(some 85), .mv (.t 84), none⟩,
    ⟨(some 86), .mv (.t 5), (some (85, false))⟩,
    ⟨(some 87), .nck (.t 86), (some (85, false))⟩,
    ⟨(some 88), .ld (some 18) (.t 87), (some (85, false))⟩,
    ⟨(some 89), .mv (.t 6), (some (85, false))⟩,
    ⟨(some 90), .nck (.t 89), (some (85, false))⟩,
    ⟨(some 91), .ld (some 18) (.t 90), (some (85, false))⟩,
    ⟨(some 92), .call 33 [(.t 88), (.t 91)], (some (85, false))⟩,
    ⟨(some 93), .un .not (.t 92), (some (85, false))⟩,
    ⟨(some 94), .pick (.t 85) (.c (.bool true)) (.t 93), none⟩,
    ⟨(some 95), .mv (.t 94), none⟩,
    ⟨(some 96), .fld 1 (.t 8), (some (95, false))⟩,
    ⟨(some 97), .ld none (.t 96), (some (95, false))⟩,
    ⟨(some 98), .bin .geq (.t 97) (.c (.int .i64 0)), (some (95, false))⟩,
    ⟨(some 99), .mv (.t 98), (some (95, false))⟩,
    ⟨(some 100), .fld 1 (.t 8), (some (99, true))⟩,
    ⟨(some 101), .ld none (.t 100), (some (99, true))⟩,
    ⟨(some 102), .bin .lss (.t 101) (.c (.int .i64 8)), (some (99, true))⟩,
    ⟨(some 103), .pick (.t 99) (.t 102) (.c (.bool false)), (some (95, false))⟩,
    ⟨(some 104), .mv (.t 103), (some (95, false))⟩,
    ⟨(some 105), .mv (.t 5), (some (104, true))⟩,
    ⟨(some 106), .fld 1 (.t 8), (some (104, true))⟩,
    ⟨(some 107), .ld none (.t 106), (some (104, true))⟩,
    ⟨(some 108), .call 27 [(.t 105), (.t 107)], (some (104, true))⟩,
    ⟨(some 109), .mv (.t 6), (some (104, true))⟩,
    ⟨(some 110), .fld 1 (.t 8), (some (104, true))⟩,
    ⟨(some 111), .ld none (.t 110), (some (104, true))⟩,
    ⟨(some 112), .nck (.t 109), (some (104, true))⟩,
    ⟨(some 113), .fld 8 (.t 112), (some (104, true))⟩,
    ⟨(some 114), .ixa 8 1 (.t 113) (.t 111), (some (104, true))⟩,
    ⟨(some 115), .ld none (.t 114), (some (104, true))⟩,
    ⟨(some 116), .bin .neq (.t 108) (.t 115), (some (104, true))⟩,
    ⟨(some 117), .pick (.t 104) (.t 116) (.c (.bool false)), (some (95, false))⟩,
    ⟨(some 118), .pick (.t 95) (.c (.bool true)) (.t 117), none⟩]
  [[], [0], [1], [2], [3, 2], [4, 2], [2], [6, 2], [7, 2], [5, 8, 2, 2], [9, 2], [2, 10], [11, 9], [12], [13, 12], [14, 12], [15, 12, 12], [16], [17, 16], [18, 16], [16, 19, 12], [20, 16, 12], [21], [21], [23, 21], [22, 24, 21, 21], [21], [21], [27, 21], [26, 21], [29, 21], [30, 28, 21], [31, 21], [25, 32, 21], [21, 33, 12], [12, 34]]
  [0, 1, 2, 3, 4, 5, 6, 7, 8, 9, 10, 11, 12, 13, 14, 15, 16, 17, 18, 19, 20, 21, 22, 23, 24, 26, 27, 28, 29, 30, 31, 32, 25, 33, 34, 35])
  (.cond (.t 118)
    (.seq (.region [
      ⟨(some 4), .mv (.c (.bool false)), none⟩])
    (.ret))
    (.skip))

/-- A part of reeve/reevelaw2.RowPlays. -/
def k5_8 : ACode :=
  .seq (.block 1 (
    .seq (.region [
      ⟨(some 31), .mv (.t 1), none⟩,
      ⟨(some 32), .mv (.t 7), none⟩,
      ⟨(some 33), .ixs 3 (.t 31) (.t 32), none⟩,
      ⟨(some 34), .ld (some 3) (.t 33), none⟩,
      ⟨(some 8), .new [.int .i64 0, .int .i64 0, .int .u64 0], none⟩,
      ⟨none, .st 3 (.t 8) (.t 34), none⟩])
    (.seq (.region [
      ⟨(some 9), .mv (.c (.bool true)), none⟩])
    (.seq (.seq (.region [
      ⟨(some 35), .fld 0 (.t 8), none⟩,
      ⟨(some 36), .ld none (.t 35), none⟩])
    k5_6)
    k5_7))))
  (.region [
    ⟨(some 29), .mv (.t 7), none⟩,
    ⟨(some 30), .bin .add (.t 29) (.c (.int .i64 1)), none⟩,
    ⟨(some 7), .mv (.t 30), none⟩])

/-- A part of reeve/reevelaw2.RowPlays. -/
def b5_9 : ACode :=
  .seq (.seq (.region [
    ⟨(some 25), .mv (.t 7), none⟩,
    ⟨(some 26), .mv (.t 1), none⟩,
    ⟨(some 27), .len false (.t 26), none⟩,
    ⟨(some 28), .bin .lss (.t 25) (.t 27), none⟩])
  (.cond (.t 28)
    (.skip)
    (.exit 0)))
  k5_8

/-- A part of reeve/reevelaw2.RowPlays. -/
def k5_10 : ACode :=
  .seq (.drawn [
    ⟨(some 15), .fld 0 (.t 2), none⟩,
    ⟨(some 16), .ld (some 8) (.t 15), none⟩,
    ⟨(some 17), .fld 8 (.t 2), none⟩,
    ⟨(some 18), .ld (some 8) (.t 17), none⟩,
    ⟨(some 19), .fld 16 (.t 2), none⟩,
    ⟨(some 20), .ld none (.t 19), none⟩,
    ⟨(some 21), .fld 17 (.t 2), none⟩,
    ⟨(some 22), .ld none (.t 21), none⟩,
    ⟨(some 23), .build [.int .u64 0, .int .u64 0, .int .u64 0, .int .u64 0, .int .u64 0, .int .u64 0, .int .u64 0, .int .u64 0, .int .u64 0, .int .u64 0, .int .u64 0, .int .u64 0, .int .u64 0, .int .u64 0, .int .u64 0, .int .u64 0, .bool false, .bool false] [(0, 8, (.t 16)), (8, 8, (.t 18)), (16, 1, (.t 20)), (17, 1, (.t 22))], none⟩,
    ⟨(some 24), .box (.t 23), none⟩,
    ⟨(some 5), .mv (.t 2), none⟩,
    ⟨(some 6), .mv (.t 24), none⟩]
  [[], [0], [], [2], [], [4], [], [6], [1, 3, 5, 7], [8], [], [9, 10, 0, 1, 2, 3, 4, 5, 6, 7, 8, 9, 10]]
  [0, 1, 2, 3, 4, 5, 6, 7, 8, 10, 9, 11])
  (.seq (.seq (.region [
    ⟨(some 7), .mv (.c (.int .i64 0)), none⟩])
  (.block 0 (
    .loop b5_9)))
  (.seq (.region [
    ⟨(some 4), .mv (.c (.bool true)), none⟩])
  (.ret)))

/-- A part of reeve/reevelaw2.RowPlays. -/
def k5_11 : ACode :=
  .seq (.seq (.region [
    ⟨(some 12), .mv (.t 1), none⟩,
    ⟨(some 13), .len false (.t 12), none⟩,
    ⟨(some 14), .bin .gtr (.t 13) (.c (.int .i64 100)), none⟩])
  (.cond (.t 14)
    (.seq (.region [
      ⟨(some 4), .mv (.c (.bool true)), none⟩])
    (.ret))
    (.skip)))
  k5_10

/-- reeve/reevelaw2.RowPlays -/
def c5 : ACode :=
  .seq (.region [
    ⟨(some 2), .box (.t 0), none⟩,
    ⟨(some 4), .mv (.c (.bool false)), none⟩])
  (.seq (.seq (.region [
    ⟨(some 10), .call 21 [], none⟩,
    ⟨(some 11), .un .not (.t 10), none⟩])
  (.cond (.t 11)
    (.seq (.region [
      ⟨(some 4), .mv (.c (.bool false)), none⟩])
    (.ret))
    (.skip)))
  k5_11)
theorem ok5 : fnOk Try.prog 5 c5 119 [.t 4] = true := by kernel_rfl

/-- A part of reeve/reevelaw2.RowLasts. -/
def k6_0 : ACode :=
  .seq (.region [
    ⟨(some 54), .mv (.t 7), none⟩,
    ⟨(some 55), .ld (some 8) (.t 6), none⟩,
    ⟨(some 56), .bsl 8 1 [.int .u64 0, .int .u64 0, .int .u64 0, .int .u64 0, .int .u64 0, .int .u64 0, .int .u64 0, .int .u64 0] [(0, (.t 55))], none⟩,
    ⟨(some 57), .app 8 64 (.t 54) (.t 56), none⟩,
    ⟨(some 7), .mv (.t 57), none⟩])
  (.region [
    ⟨(some 9), .mv (.c (.int .i64 (-1))), none⟩])

/-- A part of reeve/reevelaw2.RowLasts. -/
def k6_1 : ACode :=
  .seq (.region [
    ⟨(some 48), .fld 1 (.t 11), none⟩,
    ⟨(some 49), .ld none (.t 48), none⟩,
    ⟨(some 50), .bin .and (.t 49) (.c (.int .i64 7)), none⟩,
    ⟨(some 51), .fld 2 (.t 11), none⟩,
    ⟨(some 52), .ld none (.t 51), none⟩,
    ⟨(some 53), .ixa 8 1 (.t 6) (.t 50), none⟩,
    ⟨none, .st 1 (.t 53) (.t 52), none⟩])
  k6_0

/-- A part of reeve/reevelaw2.RowLasts. -/
def k6_2 : ACode :=
  .seq (.region [
    ⟨(some 42), .mv (.t 5), none⟩,
    ⟨(some 43), .fld 1 (.t 11), none⟩,
    ⟨(some 44), .ld none (.t 43), none⟩,
    ⟨(some 45), .fld 2 (.t 11), none⟩,
    ⟨(some 46), .ld none (.t 45), none⟩,
    ⟨(some 47), .call 22 [(.t 42), (.t 44), (.t 46)], none⟩])
  (.cond (.t 47)
    k6_1
    (.skip))

/-- A part of reeve/reevelaw2.RowLasts. -/
def k6_3 : ACode :=
  .seq (.region [
    ⟨(some 60), .mv (.t 5), none⟩,
    ⟨(some 61), .call 24 [(.t 60)], none⟩])
  (.region [
    ⟨(some 62), .mv (.t 7), none⟩,
    ⟨(some 63), .len false (.t 62), none⟩,
    ⟨(some 64), .bin .sub (.t 63) (.c (.int .i64 1)), none⟩,
    ⟨(some 9), .mv (.t 64), none⟩])

/-- A part of reeve/reevelaw2.RowLasts. -/
def k6_4 : ACode :=
  .seq (.region [
    ⟨(some 37), .mv (.t 9), none⟩,
    ⟨(some 38), .bin .geq (.t 37) (.c (.int .i64 0)), none⟩])
  (.cond (.t 38)
    (.region [
      ⟨(some 39), .mv (.t 9), none⟩,
      ⟨(some 8), .mv (.t 39), none⟩])
    (.skip))

/-- A part of reeve/reevelaw2.RowLasts. -/
def k6_5 : ACode :=
  .seq (.region [
    ⟨(some 59), .bin .eql (.t 34) (.c (.int .i64 1)), none⟩,
    ⟨(some 58), .mv (.t 59), none⟩])
  (.cond (.t 58)
    k6_3
    (.seq (.region [
      ⟨(some 35), .mv (.t 5), none⟩,
      ⟨(some 36), .call 23 [(.t 35)], none⟩])
    k6_4))

/-- A part of reeve/reevelaw2.RowLasts. -/
def k6_6 : ACode :=
  .seq (.region [
    ⟨(some 33), .fld 0 (.t 11), none⟩,
    ⟨(some 34), .ld none (.t 33), none⟩])
  (.block 2 (
    .seq (.region [
      ⟨(some 41), .bin .eql (.t 34) (.c (.int .i64 0)), none⟩,
      ⟨(some 40), .mv (.t 41), none⟩])
    (.cond (.t 40)
      k6_2
      k6_5)))

/-- A part of reeve/reevelaw2.RowLasts. -/
def k6_7 : ACode :=
  .seq (.block 1 (
    .seq (.region [
      ⟨(some 29), .mv (.t 0), none⟩,
      ⟨(some 30), .mv (.t 10), none⟩,
      ⟨(some 31), .ixs 3 (.t 29) (.t 30), none⟩,
      ⟨(some 32), .ld (some 3) (.t 31), none⟩,
      ⟨(some 11), .new [.int .i64 0, .int .i64 0, .int .u64 0], none⟩,
      ⟨none, .st 3 (.t 11) (.t 32), none⟩])
    k6_6))
  (.region [
    ⟨(some 27), .mv (.t 10), none⟩,
    ⟨(some 28), .bin .add (.t 27) (.c (.int .i64 1)), none⟩,
    ⟨(some 10), .mv (.t 28), none⟩])

/-- A part of reeve/reevelaw2.RowLasts. -/
def b6_8 : ACode :=
  .seq (.seq (.region [
    ⟨(some 23), .mv (.t 10), none⟩,
    ⟨(some 24), .mv (.t 0), none⟩,
    ⟨(some 25), .len false (.t 24), none⟩,
    ⟨(some 26), .bin .lss (.t 23) (.t 25), none⟩])
  (.cond (.t 26)
    (.skip)
    (.exit 0)))
  k6_7

/-- A part of reeve/reevelaw2.RowLasts. -/
def k6_9 : ACode :=
  .seq (.drawn [
    ⟨(some 84), .mv (.t 5), none⟩,
    ⟨(some 85), .nck (.t 84), none⟩,
    ⟨(some 86), .fld 8 (.t 85), none⟩,
    ⟨(some 87), .ld (some 8) (.t 86), none⟩,
    ⟨(some 88), .mv (.t 5), none⟩,
    ⟨(some 89), .nck (.t 88), none⟩,
    ⟨(some 90), .fld 0 (.t 89), none⟩,
    ⟨(some 91), .ld (some 8) (.t 90), none⟩,
    ⟨(some 92), .eqs false [0, 0, 0, 0, 0, 0, 0, 0] (.t 87) (.t 91), none⟩,
    ⟨(some 93), .mv (.t 92), none⟩,
    ⟨(some 94), .mv (.t 1), (some (93, true))⟩,
    ⟨(some 95), .un .not (.t 94), (some (93, true))⟩,
    ⟨(some 96), .mv (.t 95), (some (93, true))⟩,
    ⟨(some 97), .mv (.t 5), (some (96, false))⟩,
    ⟨(some 98), .nck (.t 97), (some (96, false))⟩,
    ⟨(some 99), .fld 8 (.t 98), (some (96, false))⟩,
    ⟨(some 100), .ld (some 8) (.t 99), (some (96, false))⟩,
    ⟨(some 101), .ld (some 8) (.t 6), (some (96, false))⟩,
    ⟨(some 102), .eqs false [0, 0, 0, 0, 0, 0, 0, 0] (.t 100) (.t 101), (some (96, false))⟩,
    ⟨(some 103), .pick (.t 96) (.c (.bool true)) (.t 102), (some (93, true))⟩,
    ⟨(some 104), .pick (.t 93) (.t 103) (.c (.bool false)), none⟩,
    ⟨(some 4), .mv (.t 104), none⟩]
  [[], [0], [1], [2], [], [4], [5], [6], [3, 7], [8], [9], [10, 9], [11, 9, 9], [12], [13, 12], [14, 12], [15, 12], [12], [16, 17, 12], [12, 18, 9], [9, 19], [20, 12, 0, 1, 2, 3, 4, 5, 6, 7, 8, 9, 10, 11, 12, 13, 14, 15, 16, 17, 18, 19, 20]]
  [0, 1, 2, 3, 4, 5, 6, 7, 8, 9, 10, 11, 12, 13, 14, 15, 16, 17, 18, 19, 20, 21])
  (.ret)

/-- A part of reeve/reevelaw2.RowLasts. -/
def k6_10 : ACode :=
  .seq (.block 4 (
    .seq (.drawn [
      ⟨(some 75), .mv (.t 5), none⟩,
      ⟨(some 76), .nck (.t 75), none⟩,
      ⟨(some 77), .fld 0 (.t 76), none⟩,
      ⟨(some 78), .ld (some 8) (.t 77), none⟩,
      ⟨(some 79), .mv (.t 7), none⟩,
      ⟨(some 80), .mv (.t 12), none⟩,
      ⟨(some 81), .ixs 8 (.t 79) (.t 80), none⟩,
      ⟨(some 82), .ld (some 8) (.t 81), none⟩,
      ⟨(some 83), .eqs false [0, 0, 0, 0, 0, 0, 0, 0] (.t 78) (.t 82), none⟩]
    [[], [0], [1], [2], [], [], [4, 5], [6], [3, 7]]
    [0, 1, 2, 3, 4, 5, 6, 7, 8])
    (.cond (.t 83)
      k6_9
      (.skip))))
  (.region [
    ⟨(some 73), .mv (.t 12), none⟩,
    ⟨(some 74), .bin .add (.t 73) (.c (.int .i64 1)), none⟩,
    ⟨(some 12), .mv (.t 74), none⟩])

/-- A part of reeve/reevelaw2.RowLasts. -/
def b6_11 : ACode :=
  .seq (.seq (.region [
    ⟨(some 69), .mv (.t 12), none⟩,
    ⟨(some 70), .mv (.t 7), none⟩,
    ⟨(some 71), .len false (.t 70), none⟩,
    ⟨(some 72), .bin .lss (.t 69) (.t 71), none⟩])
  (.cond (.t 72)
    (.skip)
    (.exit 3)))
  k6_10

/-- A part of reeve/reevelaw2.RowLasts. -/
def k6_12 : ACode :=
  .seq (.region [
    ⟨(some 65), .mv (.t 5), none⟩,
    ⟨(some 66), .mv (.t 1), none⟩,
    ⟨(some 67), .call 25 [(.t 65), (.t 66)], none⟩])
  (.seq (.seq (.region [
    ⟨(some 68), .mv (.t 8), none⟩,
    ⟨(some 12), .mv (.t 68), none⟩])
  (.block 3 (
    .loop b6_11)))
  (.seq (.region [
    ⟨(some 4), .mv (.c (.bool false)), none⟩])
  (.ret)))

/-- A part of reeve/reevelaw2.RowLasts. -/
def k6_13 : ACode :=
  .seq (.region [
    ⟨(some 21), .ld (some 8) (.t 6), none⟩,
    ⟨(some 22), .bsl 8 1 [.int .u64 0, .int .u64 0, .int .u64 0, .int .u64 0, .int .u64 0, .int .u64 0, .int .u64 0, .int .u64 0] [(0, (.t 21))], none⟩,
    ⟨(some 7), .mv (.t 22), none⟩])
  (.seq (.region [
    ⟨(some 8), .mv (.c (.int .i64 0)), none⟩])
  (.seq (.region [
    ⟨(some 9), .mv (.c (.int .i64 (-1))), none⟩])
  (.seq (.seq (.region [
    ⟨(some 10), .mv (.c (.int .i64 0)), none⟩])
  (.block 0 (
    .loop b6_8)))
  k6_12)))

/-- A part of reeve/reevelaw2.RowLasts. -/
def k6_14 : ACode :=
  .seq (.region [
    ⟨(some 20), .build [.int .u64 0, .int .u64 0, .int .u64 0, .int .u64 0, .int .u64 0, .int .u64 0, .int .u64 0, .int .u64 0] [], none⟩,
    ⟨(some 6), .new [.int .u64 0, .int .u64 0, .int .u64 0, .int .u64 0, .int .u64 0, .int .u64 0, .int .u64 0, .int .u64 0], none⟩,
    ⟨none, .st 8 (.t 6) (.t 20), none⟩])
  k6_13

/-- A part of reeve/reevelaw2.RowLasts. -/
def k6_15 : ACode :=
  .seq (.region [
    ⟨(some 18), .build [.int .u64 0, .int .u64 0, .int .u64 0, .int .u64 0, .int .u64 0, .int .u64 0, .int .u64 0, .int .u64 0, .int .u64 0, .int .u64 0, .int .u64 0, .int .u64 0, .int .u64 0, .int .u64 0, .int .u64 0, .int .u64 0, .bool false, .bool false] [], none⟩,
    ⟨(some 19), .box (.t 18), none⟩,
    ⟨(some 5), .mv (.t 19), none⟩])
  k6_14

/-- A part of reeve/reevelaw2.RowLasts. -/
def k6_16 : ACode :=
  .seq (.seq (.region [
    ⟨(some 15), .mv (.t 0), none⟩,
    ⟨(some 16), .len false (.t 15), none⟩,
    ⟨(some 17), .bin .gtr (.t 16) (.c (.int .i64 60)), none⟩])
  (.cond (.t 17)
    (.seq (.region [
      ⟨(some 4), .mv (.c (.bool true)), none⟩])
    (.ret))
    (.skip)))
  k6_15

/-- reeve/reevelaw2.RowLasts -/
def c6 : ACode :=
  .seq (.region [
    ⟨(some 4), .mv (.c (.bool false)), none⟩])
  (.seq (.seq (.region [
    ⟨(some 13), .call 21 [], none⟩,
    ⟨(some 14), .un .not (.t 13), none⟩])
  (.cond (.t 14)
    (.seq (.region [
      ⟨(some 4), .mv (.c (.bool false)), none⟩])
    (.ret))
    (.skip)))
  k6_16)
theorem ok6 : fnOk Try.prog 6 c6 105 [.t 4] = true := by kernel_rfl

/-- A part of reeve/reevelaw2.RowNew. -/
def k7_0 : ACode :=
  .drawn [
    ⟨(some 70), .mv (.t 0), none⟩,
    ⟨(some 71), .mv (.t 5), none⟩,
    ⟨(some 72), .ixs 3 (.t 70) (.t 71), none⟩,
    ⟨(some 73), .fld 1 (.t 72), none⟩,
    ⟨(some 74), .ld none (.t 73), none⟩,
    ⟨(some 75), .mv (.t 0), none⟩,
    ⟨(some 76), .mv (.t 5), none⟩,
    ⟨(some 77), .ixs 3 (.t 75) (.t 76), none⟩,
    ⟨(some 78), .fld 2 (.t 77), none⟩,
    ⟨(some 79), .ld none (.t 78), none⟩,
    ⟨(some 80), .ixa 8 1 (.t 4) (.t 74), none⟩,
    ⟨none, .st 1 (.t 80) (.t 79), none⟩]
  [[], [], [0, 1], [2], [3], [], [], [5, 6], [7], [8], [4, 0, 1, 2, 3, 4, 5, 6, 7, 8, 9], [10, 9, 0, 1, 2, 3, 4, 5, 6, 7, 8, 9]]
  [0, 1, 2, 3, 4, 5, 6, 7, 8, 9, 10, 11]

/-- A part of reeve/reevelaw2.RowNew. -/
def k7_1 : ACode :=
  .seq (.region [
    ⟨(some 56), .mv (.t 0), none⟩,
    ⟨(some 57), .mv (.t 5), none⟩,
    ⟨(some 58), .ixs 3 (.t 56) (.t 57), none⟩,
    ⟨(some 59), .fld 1 (.t 58), none⟩,
    ⟨(some 60), .ld none (.t 59), none⟩,
    ⟨(some 61), .bin .geq (.t 60) (.c (.int .i64 0)), none⟩,
    ⟨(some 62), .mv (.t 61), none⟩,
    ⟨(some 63), .mv (.t 0), (some (62, true))⟩,
    ⟨(some 64), .mv (.t 5), (some (62, true))⟩,
    ⟨(some 65), .ixs 3 (.t 63) (.t 64), (some (62, true))⟩,
    ⟨(some 66), .fld 1 (.t 65), (some (62, true))⟩,
    ⟨(some 67), .ld none (.t 66), (some (62, true))⟩,
    ⟨(some 68), .bin .lss (.t 67) (.c (.int .i64 8)), (some (62, true))⟩,
    ⟨(some 69), .pick (.t 62) (.t 68) (.c (.bool false)), none⟩])
  (.cond (.t 69)
    k7_0
    (.skip))

/-- A part of reeve/reevelaw2.RowNew. -/
def k7_2 : ACode :=
  .seq (.seq (.drawn [
    ⟨(some 29), .mv (.t 3), none⟩,
    ⟨(some 30), .mv (.t 0), none⟩,
    ⟨(some 31), .mv (.t 5), none⟩,
    ⟨(some 32), .ixs 3 (.t 30) (.t 31), none⟩,
    ⟨(some 33), .fld 1 (.t 32), none⟩,
    ⟨(some 34), .ld none (.t 33), none⟩,
    ⟨(some 35), .mv (.t 0), none⟩,
    ⟨(some 36), .mv (.t 5), none⟩,
    ⟨(some 37), .ixs 3 (.t 35) (.t 36), none⟩,
    ⟨(some 38), .fld 2 (.t 37), none⟩,
    ⟨(some 39), .ld none (.t 38), none⟩,
    ⟨(some 40), .call 22 [(.t 29), (.t 34), (.t 39)], none⟩,
    ⟨(some 41), .mv (.t 0), none⟩,
    ⟨(some 42), .mv (.t 5), none⟩,
    ⟨(some 43), .ixs 3 (.t 41) (.t 42), none⟩,
    ⟨(some 44), .fld 1 (.t 43), none⟩,
    ⟨(some 45), .ld none (.t 44), none⟩,
    ⟨(some 46), .bin .geq (.t 45) (.c (.int .i64 0)), none⟩,
    ⟨(some 47), .mv (.t 46), none⟩,
    ⟨(some 48), .mv (.t 0), (some (47, true))⟩,
    ⟨(some 49), .mv (.t 5), (some (47, true))⟩,
    ⟨(some 50), .ixs 3 (.t 48) (.t 49), (some (47, true))⟩,
    ⟨(some 51), .fld 1 (.t 50), (some (47, true))⟩,
    ⟨(some 52), .ld none (.t 51), (some (47, true))⟩,
    ⟨(some 53), .bin .lss (.t 52) (.c (.int .i64 8)), (some (47, true))⟩,
    ⟨(some 54), .pick (.t 47) (.t 53) (.c (.bool false)), none⟩,
    ⟨(some 55), .eqb true (.t 40) (.t 54), none⟩]
  [[], [], [], [1, 2], [3], [4], [], [], [6, 7], [8], [9], [0, 5, 10], [], [], [12, 13], [14], [15], [16], [17, 11], [18], [18], [19, 20, 18], [21, 18], [22, 18], [23, 18], [18, 24], [11, 25]]
  [0, 1, 2, 3, 4, 5, 6, 7, 8, 9, 10, 12, 13, 14, 15, 16, 17, 11, 18, 19, 20, 21, 22, 23, 24, 25, 26])
  (.cond (.t 55)
    (.seq (.region [
      ⟨(some 2), .mv (.c (.bool false)), none⟩])
    (.ret))
    (.skip)))
  k7_1

/-- A part of reeve/reevelaw2.RowNew. -/
def k7_3 : ACode :=
  .cond (.t 85)
    (.region [
      ⟨(some 87), .mv (.t 3), none⟩,
      ⟨(some 88), .call 23 [(.t 87)], none⟩])
    (.region [
      ⟨(some 25), .mv (.t 3), none⟩,
      ⟨(some 26), .call 26 [(.t 25)], none⟩])

/-- A part of reeve/reevelaw2.RowNew. -/
def k7_4 : ACode :=
  .cond (.t 81)
    (.region [
      ⟨(some 83), .mv (.t 3), none⟩,
      ⟨(some 84), .call 24 [(.t 83)], none⟩])
    (.seq (.region [
      ⟨(some 86), .bin .eql (.t 24) (.c (.int .i64 2)), none⟩,
      ⟨(some 85), .mv (.t 86), none⟩])
    k7_3)

/-- A part of reeve/reevelaw2.RowNew. -/
def k7_5 : ACode :=
  .block 2 (
    .seq (.region [
      ⟨(some 28), .bin .eql (.t 24) (.c (.int .i64 0)), none⟩,
      ⟨(some 27), .mv (.t 28), none⟩])
    (.cond (.t 27)
      k7_2
      (.seq (.region [
        ⟨(some 82), .bin .eql (.t 24) (.c (.int .i64 1)), none⟩,
        ⟨(some 81), .mv (.t 82), none⟩])
      k7_4)))

/-- A part of reeve/reevelaw2.RowNew. -/
def k7_6 : ACode :=
  .seq (.drawn [
    ⟨(some 89), .mv (.t 3), none⟩,
    ⟨(some 90), .nck (.t 89), none⟩,
    ⟨(some 91), .fld 8 (.t 90), none⟩,
    ⟨(some 92), .ld (some 8) (.t 91), none⟩,
    ⟨(some 93), .ld (some 8) (.t 4), none⟩,
    ⟨(some 94), .eqs true [0, 0, 0, 0, 0, 0, 0, 0] (.t 92) (.t 93), none⟩,
    ⟨(some 95), .mv (.t 94), none⟩,
    ⟨(some 96), .mv (.t 3), (some (95, false))⟩,
    ⟨(some 97), .nck (.t 96), (some (95, false))⟩,
    ⟨(some 98), .fld 16 (.t 97), (some (95, false))⟩,
    ⟨(some 99), .ld none (.t 98), (some (95, false))⟩,
    ⟨(some 100), .un .not (.t 99), (some (95, false))⟩,
    ⟨(some 101), .mv (.t 100), (some (95, false))⟩,
    ⟨(some 102), .mv (.t 3), (some (101, true))⟩,
    ⟨(some 103), .nck (.t 102), (some (101, true))⟩,
    ⟨(some 104), .fld 0 (.t 103), (some (101, true))⟩,
    ⟨(some 105), .ld (some 8) (.t 104), (some (101, true))⟩,
    ⟨(some 106), .ld (some 8) (.t 4), (some (101, true))⟩,
    ⟨(some 107), .eqs true [0, 0, 0, 0, 0, 0, 0, 0] (.t 105) (.t 106), (some (101, true))⟩,
    ⟨(some 108), .pick (.t 101) (.t 107) (.c (.bool false)), (some (95, false))⟩,
    ⟨(some 109), .pick (.t 95) (.c (.bool true)) (.t 108), none⟩,
    ⟨(some 110), .mv (.t 109), none⟩,
    ⟨(some 111), .mv (.t 3), (some (110, false))⟩,
    ⟨(some 112), .nck (.t 111), (some (110, false))⟩,
    ⟨(some 113), .fld 17 (.t 112), (some (110, false))⟩,
    ⟨(some 114), .ld none (.t 113), (some (110, false))⟩,
    ⟨(some 115), .mv (.t 114), (some (110, false))⟩,
    ⟨(some 116), .mv (.t 3), (some (115, true))⟩,
    ⟨(some 117), .nck (.t 116), (some (115, true))⟩,
    ⟨(some 118), .fld 16 (.t 117), (some (115, true))⟩,
    ⟨(some 119), .ld none (.t 118), (some (115, true))⟩,
    ⟨(some 120), .un .not (.t 119), (some (115, true))⟩,
    ⟨(some 121), .pick (.t 115) (.t 120) (.c (.bool false)), (some (110, false))⟩,
    ⟨(some 122), .pick (.t 110) (.c (.bool true)) (.t 121), none⟩]
  [[], [0], [1], [2], [], [3, 4], [5], [6], [7, 6], [8, 6], [9, 6], [10, 6], [11, 6, 6], [12], [13, 12], [14, 12], [15, 12], [12], [16, 17, 12], [12, 18, 6], [6, 19], [20, 12], [21], [22, 21], [23, 21], [24, 21], [25, 21, 21], [26], [27, 26], [28, 26], [29, 26], [30, 26], [26, 31, 21], [21, 32]]
  [0, 1, 2, 3, 4, 5, 6, 7, 8, 9, 10, 11, 12, 13, 14, 15, 16, 17, 18, 19, 20, 21, 22, 23, 24, 25, 26, 27, 28, 29, 30, 31, 32, 33])
  (.cond (.t 122)
    (.seq (.region [
      ⟨(some 2), .mv (.c (.bool false)), none⟩])
    (.ret))
    (.skip))

/-- A part of reeve/reevelaw2.RowNew. -/
def k7_7 : ACode :=
  .seq (.block 1 (
    .seq (.seq (.region [
      ⟨(some 20), .mv (.t 0), none⟩,
      ⟨(some 21), .mv (.t 5), none⟩,
      ⟨(some 22), .ixs 3 (.t 20) (.t 21), none⟩,
      ⟨(some 23), .fld 0 (.t 22), none⟩,
      ⟨(some 24), .ld none (.t 23), none⟩])
    k7_5)
    k7_6))
  (.region [
    ⟨(some 18), .mv (.t 5), none⟩,
    ⟨(some 19), .bin .add (.t 18) (.c (.int .i64 1)), none⟩,
    ⟨(some 5), .mv (.t 19), none⟩])

/-- A part of reeve/reevelaw2.RowNew. -/
def b7_8 : ACode :=
  .seq (.seq (.region [
    ⟨(some 14), .mv (.t 5), none⟩,
    ⟨(some 15), .mv (.t 0), none⟩,
    ⟨(some 16), .len false (.t 15), none⟩,
    ⟨(some 17), .bin .lss (.t 14) (.t 16), none⟩])
  (.cond (.t 17)
    (.skip)
    (.exit 0)))
  k7_7

/-- A part of reeve/reevelaw2.RowNew. -/
def k7_9 : ACode :=
  .seq (.region [
    ⟨(some 13), .build [.int .u64 0, .int .u64 0, .int .u64 0, .int .u64 0, .int .u64 0, .int .u64 0, .int .u64 0, .int .u64 0] [], none⟩,
    ⟨(some 4), .new [.int .u64 0, .int .u64 0, .int .u64 0, .int .u64 0, .int .u64 0, .int .u64 0, .int .u64 0, .int .u64 0], none⟩,
    ⟨none, .st 8 (.t 4) (.t 13), none⟩])
  (.seq (.seq (.region [
    ⟨(some 5), .mv (.c (.int .i64 0)), none⟩])
  (.block 0 (
    .loop b7_8)))
  (.seq (.region [
    ⟨(some 2), .mv (.c (.bool true)), none⟩])
  (.ret)))

/-- A part of reeve/reevelaw2.RowNew. -/
def k7_10 : ACode :=
  .seq (.region [
    ⟨(some 11), .build [.int .u64 0, .int .u64 0, .int .u64 0, .int .u64 0, .int .u64 0, .int .u64 0, .int .u64 0, .int .u64 0, .int .u64 0, .int .u64 0, .int .u64 0, .int .u64 0, .int .u64 0, .int .u64 0, .int .u64 0, .int .u64 0, .bool false, .bool false] [], none⟩,
    ⟨(some 12), .box (.t 11), none⟩,
    ⟨(some 3), .mv (.t 12), none⟩])
  k7_9

/-- A part of reeve/reevelaw2.RowNew. -/
def k7_11 : ACode :=
  .seq (.seq (.region [
    ⟨(some 8), .mv (.t 0), none⟩,
    ⟨(some 9), .len false (.t 8), none⟩,
    ⟨(some 10), .bin .gtr (.t 9) (.c (.int .i64 80)), none⟩])
  (.cond (.t 10)
    (.seq (.region [
      ⟨(some 2), .mv (.c (.bool true)), none⟩])
    (.ret))
    (.skip)))
  k7_10

/-- reeve/reevelaw2.RowNew -/
def c7 : ACode :=
  .seq (.region [
    ⟨(some 2), .mv (.c (.bool false)), none⟩])
  (.seq (.seq (.region [
    ⟨(some 6), .call 21 [], none⟩,
    ⟨(some 7), .un .not (.t 6), none⟩])
  (.cond (.t 7)
    (.seq (.region [
      ⟨(some 2), .mv (.c (.bool false)), none⟩])
    (.ret))
    (.skip)))
  k7_11)
theorem ok7 : fnOk Try.prog 7 c7 123 [.t 2] = true := by kernel_rfl

/-- A part of reeve/reevelaw7.RightLattice. -/
def k8_0 : ACode :=
  .seq (.region [
    ⟨(some 34), .mv (.t 7), none⟩,
    ⟨(some 35), .mv (.t 0), none⟩,
    ⟨(some 36), .call 35 [(.t 34), (.t 35)], none⟩,
    ⟨(some 37), .mv (.t 36), none⟩,
    ⟨(some 38), .mv (.t 7), (some (37, true))⟩,
    ⟨(some 39), .mv (.t 1), (some (37, true))⟩,
    ⟨(some 40), .call 35 [(.t 38), (.t 39)], (some (37, true))⟩,
    ⟨(some 41), .pick (.t 37) (.t 40) (.c (.bool false)), none⟩,
    ⟨(some 42), .mv (.t 41), none⟩,
    ⟨(some 43), .mv (.t 7), (some (42, true))⟩,
    ⟨(some 44), .mv (.t 0), (some (42, true))⟩,
    ⟨(some 45), .mv (.t 1), (some (42, true))⟩,
    ⟨(some 46), .call 19 [(.t 44), (.t 45)], (some (42, true))⟩,
    ⟨(some 47), .bin .add (.t 43) (.t 46), (some (42, true))⟩,
    ⟨(some 48), .mv (.t 0), (some (42, true))⟩,
    ⟨(some 49), .bin .eql (.t 47) (.t 48), (some (42, true))⟩,
    ⟨(some 50), .pick (.t 42) (.t 49) (.c (.bool false)), none⟩,
    ⟨(some 51), .mv (.t 50), none⟩,
    ⟨(some 52), .mv (.t 0), (some (51, true))⟩,
    ⟨(some 53), .mv (.t 1), (some (51, true))⟩,
    ⟨(some 54), .call 20 [(.t 52), (.t 53)], (some (51, true))⟩,
    ⟨(some 55), .mv (.t 1), (some (51, true))⟩,
    ⟨(some 56), .mv (.t 0), (some (51, true))⟩,
    ⟨(some 57), .call 20 [(.t 55), (.t 56)], (some (51, true))⟩,
    ⟨(some 58), .bin .eql (.t 54) (.t 57), (some (51, true))⟩,
    ⟨(some 59), .pick (.t 51) (.t 58) (.c (.bool false)), none⟩,
    ⟨(some 60), .mv (.t 59), none⟩,
    ⟨(some 61), .mv (.t 0), (some (60, true))⟩,
    ⟨(some 62), .mv (.t 1), (some (60, true))⟩,
    ⟨(some 63), .call 35 [(.t 61), (.t 62)], (some (60, true))⟩,
    ⟨(some 64), .un .not (.t 63), (some (60, true))⟩,
    ⟨(some 65), .mv (.t 64), (some (60, true))⟩,
    ⟨(some 66), .mv (.t 1), (some (65, false))⟩,
    ⟨(some 67), .mv (.t 2), (some (65, false))⟩,
    ⟨(some 68), .call 35 [(.t 66), (.t 67)], (some (65, false))⟩,
    ⟨(some 69), .un .not (.t 68), (some (65, false))⟩,
    ⟨(some 70), .pick (.t 65) (.c (.bool true)) (.t 69), (some (60, true))⟩,
    ⟨(some 71), .mv (.t 70), (some (60, true))⟩,
    ⟨(some 72), .mv (.t 0), (some (71, false))⟩,
    ⟨(some 73), .mv (.t 2), (some (71, false))⟩,
    ⟨(some 74), .call 35 [(.t 72), (.t 73)], (some (71, false))⟩,
    ⟨(some 75), .pick (.t 71) (.c (.bool true)) (.t 74), (some (60, true))⟩,
    ⟨(some 76), .pick (.t 60) (.t 75) (.c (.bool false)), none⟩,
    ⟨(some 77), .mv (.t 76), none⟩,
    ⟨(some 78), .mv (.t 0), (some (77, true))⟩,
    ⟨(some 79), .mv (.t 1), (some (77, true))⟩,
    ⟨(some 80), .call 35 [(.t 78), (.t 79)], (some (77, true))⟩,
    ⟨(some 81), .mv (.t 7), (some (77, true))⟩,
    ⟨(some 82), .mv (.t 0), (some (77, true))⟩,
    ⟨(some 83), .bin .eql (.t 81) (.t 82), (some (77, true))⟩,
    ⟨(some 84), .eqb false (.t 80) (.t 83), (some (77, true))⟩,
    ⟨(some 85), .pick (.t 77) (.t 84) (.c (.bool false)), none⟩,
    ⟨(some 86), .mv (.t 85), none⟩,
    ⟨(some 87), .mv (.t 9), (some (86, true))⟩,
    ⟨(some 88), .pick (.t 86) (.t 87) (.c (.bool false)), none⟩,
    ⟨(some 89), .mv (.t 88), none⟩,
    ⟨(some 90), .mv (.t 8), (some (89, true))⟩,
    ⟨(some 91), .mv (.t 0), (some (89, true))⟩,
    ⟨(some 92), .bin .eql (.t 90) (.t 91), (some (89, true))⟩,
    ⟨(some 93), .pick (.t 89) (.t 92) (.c (.bool false)), none⟩,
    ⟨(some 94), .mv (.t 93), none⟩,
    ⟨(some 95), .mv (.t 0), (some (94, true))⟩,
    ⟨(some 96), .mv (.t 1), (some (94, true))⟩,
    ⟨(some 97), .call 35 [(.t 95), (.t 96)], (some (94, true))⟩,
    ⟨(some 98), .mv (.t 97), (some (94, true))⟩,
    ⟨(some 99), .mv (.t 1), (some (98, true))⟩,
    ⟨(some 100), .mv (.t 0), (some (98, true))⟩,
    ⟨(some 101), .call 35 [(.t 99), (.t 100)], (some (98, true))⟩,
    ⟨(some 102), .pick (.t 98) (.t 101) (.c (.bool false)), (some (94, true))⟩,
    ⟨(some 103), .mv (.t 0), (some (94, true))⟩,
    ⟨(some 104), .mv (.t 1), (some (94, true))⟩,
    ⟨(some 105), .bin .eql (.t 103) (.t 104), (some (94, true))⟩,
    ⟨(some 106), .eqb false (.t 102) (.t 105), (some (94, true))⟩,
    ⟨(some 107), .pick (.t 94) (.t 106) (.c (.bool false)), none⟩,
    ⟨(some 6), .mv (.t 107), none⟩])
  (.ret)

/-- A part of reeve/reevelaw7.RightLattice. -/
def k8_1 : ACode :=
  .seq (.region [
    ⟨(some 29), .mv (.t 0), none⟩,
    ⟨(some 30), .call 18 [(.t 29)], none⟩,
    ⟨(some 31), .call 34 [(.t 30)], none⟩,
    ⟨(some 28), .mv (.t 31), none⟩,
    ⟨(some 32), .ext (.t 28) 0, none⟩,
    ⟨(some 33), .ext (.t 28) 1, none⟩,
    ⟨(some 8), .mv (.t 32), none⟩,
    ⟨(some 9), .mv (.t 33), none⟩])
  k8_0

/-- A part of reeve/reevelaw7.RightLattice. -/
def k8_2 : ACode :=
  .seq (.seq (.region [
    ⟨(some 12), .mv (.t 0), none⟩,
    ⟨(some 13), .call 17 [(.t 12)], none⟩,
    ⟨(some 14), .un .not (.t 13), none⟩,
    ⟨(some 15), .mv (.t 14), none⟩,
    ⟨(some 16), .mv (.t 1), (some (15, false))⟩,
    ⟨(some 17), .call 17 [(.t 16)], (some (15, false))⟩,
    ⟨(some 18), .un .not (.t 17), (some (15, false))⟩,
    ⟨(some 19), .pick (.t 15) (.c (.bool true)) (.t 18), none⟩,
    ⟨(some 20), .mv (.t 19), none⟩,
    ⟨(some 21), .mv (.t 2), (some (20, false))⟩,
    ⟨(some 22), .call 17 [(.t 21)], (some (20, false))⟩,
    ⟨(some 23), .un .not (.t 22), (some (20, false))⟩,
    ⟨(some 24), .pick (.t 20) (.c (.bool true)) (.t 23), none⟩])
  (.cond (.t 24)
    (.seq (.region [
      ⟨(some 6), .mv (.c (.bool true)), none⟩])
    (.ret))
    (.skip)))
  (.seq (.region [
    ⟨(some 25), .mv (.t 0), none⟩,
    ⟨(some 26), .mv (.t 1), none⟩,
    ⟨(some 27), .call 20 [(.t 25), (.t 26)], none⟩,
    ⟨(some 7), .mv (.t 27), none⟩])
  k8_1)

/-- reeve/reevelaw7.RightLattice -/
def c8 : ACode :=
  .seq (.region [
    ⟨(some 6), .mv (.c (.bool false)), none⟩])
  (.seq (.seq (.region [
    ⟨(some 10), .call 16 [], none⟩,
    ⟨(some 11), .un .not (.t 10), none⟩])
  (.cond (.t 11)
    (.seq (.region [
      ⟨(some 6), .mv (.c (.bool false)), none⟩])
    (.ret))
    (.skip)))
  k8_2)
theorem ok8 : fnOk Try.prog 8 c8 108 [.t 6] = true := by kernel_rfl

/-- A part of reeve/reevelaw7.RightKnown. -/
def k9_0 : ACode :=
  .seq (.region [
    ⟨(some 25), .mv (.t 4), none⟩,
    ⟨(some 26), .mv (.t 25), none⟩,
    ⟨(some 27), .mv (.t 3), (some (26, false))⟩,
    ⟨(some 28), .bin .neq (.t 27) (.c (.int .i64 0)), (some (26, false))⟩,
    ⟨(some 29), .pick (.t 26) (.c (.bool true)) (.t 28), none⟩])
  (.cond (.t 29)
    (.seq (.region [
      ⟨(some 0), .mv (.c (.bool false)), none⟩])
    (.ret))
    (.skip))

/-- A part of reeve/reevelaw7.RightKnown. -/
def k9_1 : ACode :=
  .seq (.block 1 (
    .seq (.region [
      ⟨(some 18), .mv (.t 1), none⟩,
      ⟨(some 19), .mv (.t 2), none⟩,
      ⟨(some 20), .ixs 1 (.t 18) (.t 19), none⟩,
      ⟨(some 21), .ld none (.t 20), none⟩,
      ⟨(some 22), .call 34 [(.t 21)], none⟩,
      ⟨(some 17), .mv (.t 22), none⟩,
      ⟨(some 23), .ext (.t 17) 0, none⟩,
      ⟨(some 24), .ext (.t 17) 1, none⟩,
      ⟨(some 3), .mv (.t 23), none⟩,
      ⟨(some 4), .mv (.t 24), none⟩])
    k9_0))
  (.region [
    ⟨(some 15), .mv (.t 2), none⟩,
    ⟨(some 16), .bin .add (.t 15) (.c (.int .i64 1)), none⟩,
    ⟨(some 2), .mv (.t 16), none⟩])

/-- A part of reeve/reevelaw7.RightKnown. -/
def b9_2 : ACode :=
  .seq (.seq (.region [
    ⟨(some 11), .mv (.t 2), none⟩,
    ⟨(some 12), .mv (.t 1), none⟩,
    ⟨(some 13), .len false (.t 12), none⟩,
    ⟨(some 14), .bin .lss (.t 11) (.t 13), none⟩])
  (.cond (.t 14)
    (.skip)
    (.exit 0)))
  k9_1

/-- A part of reeve/reevelaw7.RightKnown. -/
def k9_3 : ACode :=
  .seq (.region [
    ⟨(some 35), .call 17 [(.c (.int .i64 8))], none⟩,
    ⟨(some 36), .un .not (.t 35), none⟩,
    ⟨(some 37), .mv (.t 36), none⟩,
    ⟨(some 38), .call 17 [(.c (.int .i64 (-1)))], (some (37, true))⟩,
    ⟨(some 39), .un .not (.t 38), (some (37, true))⟩,
    ⟨(some 40), .pick (.t 37) (.t 39) (.c (.bool false)), none⟩,
    ⟨(some 41), .mv (.t 40), none⟩,
    ⟨(some 42), .call 18 [(.c (.int .i64 0))], (some (41, true))⟩,
    ⟨(some 43), .sbin .eql (.t 42) (.c (.str [45])), (some (41, true))⟩,
    ⟨(some 44), .pick (.t 41) (.t 43) (.c (.bool false)), none⟩,
    ⟨(some 45), .mv (.t 44), none⟩,
    ⟨(some 46), .call 18 [(.c (.int .i64 9))], (some (45, true))⟩,
    ⟨(some 47), .sbin .eql (.t 46) (.c (.str [45])), (some (45, true))⟩,
    ⟨(some 48), .pick (.t 45) (.t 47) (.c (.bool false)), none⟩,
    ⟨(some 49), .mv (.t 48), none⟩,
    ⟨(some 50), .mv (.t 6), (some (49, true))⟩,
    ⟨(some 51), .pick (.t 49) (.t 50) (.c (.bool false)), none⟩,
    ⟨(some 52), .mv (.t 51), none⟩,
    ⟨(some 53), .mv (.t 5), (some (52, true))⟩,
    ⟨(some 54), .bin .eql (.t 53) (.c (.int .i64 0)), (some (52, true))⟩,
    ⟨(some 55), .pick (.t 52) (.t 54) (.c (.bool false)), none⟩,
    ⟨(some 56), .mv (.t 55), none⟩,
    ⟨(some 57), .call 35 [(.c (.int .i64 9)), (.c (.int .i64 0))], (some (56, true))⟩,
    ⟨(some 58), .pick (.t 56) (.t 57) (.c (.bool false)), none⟩,
    ⟨(some 59), .mv (.t 58), none⟩,
    ⟨(some 60), .call 35 [(.c (.int .i64 3)), (.c (.int .i64 7))], (some (59, true))⟩,
    ⟨(some 61), .pick (.t 59) (.t 60) (.c (.bool false)), none⟩,
    ⟨(some 62), .mv (.t 61), none⟩,
    ⟨(some 63), .call 35 [(.c (.int .i64 4)), (.c (.int .i64 3))], (some (62, true))⟩,
    ⟨(some 64), .un .not (.t 63), (some (62, true))⟩,
    ⟨(some 65), .pick (.t 62) (.t 64) (.c (.bool false)), none⟩,
    ⟨(some 66), .mv (.t 65), none⟩,
    ⟨(some 67), .call 20 [(.c (.int .i64 6)), (.c (.int .i64 3))], (some (66, true))⟩,
    ⟨(some 68), .bin .eql (.t 67) (.c (.int .i64 2)), (some (66, true))⟩,
    ⟨(some 69), .pick (.t 66) (.t 68) (.c (.bool false)), none⟩,
    ⟨(some 70), .mv (.t 69), none⟩,
    ⟨(some 71), .call 19 [(.c (.int .i64 6)), (.c (.int .i64 3))], (some (70, true))⟩,
    ⟨(some 72), .bin .eql (.t 71) (.c (.int .i64 4)), (some (70, true))⟩,
    ⟨(some 73), .pick (.t 70) (.t 72) (.c (.bool false)), none⟩,
    ⟨(some 74), .mv (.t 73), none⟩,
    ⟨(some 75), .call 37 [(.c (.int .i64 0))], (some (74, true))⟩,
    ⟨(some 76), .pick (.t 74) (.t 75) (.c (.bool false)), none⟩,
    ⟨(some 77), .mv (.t 76), none⟩,
    ⟨(some 78), .call 37 [(.c (.int .i64 65535))], (some (77, true))⟩,
    ⟨(some 79), .pick (.t 77) (.t 78) (.c (.bool false)), none⟩,
    ⟨(some 80), .mv (.t 79), none⟩,
    ⟨(some 81), .call 37 [(.c (.int .i64 65536))], (some (80, true))⟩,
    ⟨(some 82), .un .not (.t 81), (some (80, true))⟩,
    ⟨(some 83), .pick (.t 80) (.t 82) (.c (.bool false)), none⟩,
    ⟨(some 84), .mv (.t 83), none⟩,
    ⟨(some 85), .call 37 [(.c (.int .i64 (-1)))], (some (84, true))⟩,
    ⟨(some 86), .un .not (.t 85), (some (84, true))⟩,
    ⟨(some 87), .pick (.t 84) (.t 86) (.c (.bool false)), none⟩,
    ⟨(some 88), .mv (.t 87), none⟩,
    ⟨(some 89), .mv (.t 7), (some (88, true))⟩,
    ⟨(some 90), .len false (.t 89), (some (88, true))⟩,
    ⟨(some 91), .bin .eql (.t 90) (.c (.int .i64 8)), (some (88, true))⟩,
    ⟨(some 92), .pick (.t 88) (.t 91) (.c (.bool false)), none⟩,
    ⟨(some 93), .mv (.t 92), none⟩,
    ⟨(some 94), .mv (.t 7), (some (93, true))⟩,
    ⟨(some 95), .ixs 1 (.t 94) (.c (.int .i64 0)), (some (93, true))⟩,
    ⟨(some 96), .ld none (.t 95), (some (93, true))⟩,
    ⟨(some 97), .bin .eql (.t 96) (.c (.int .i64 0)), (some (93, true))⟩,
    ⟨(some 98), .pick (.t 93) (.t 97) (.c (.bool false)), none⟩,
    ⟨(some 99), .mv (.t 98), none⟩,
    ⟨(some 100), .mv (.t 7), (some (99, true))⟩,
    ⟨(some 101), .ixs 1 (.t 100) (.c (.int .i64 7)), (some (99, true))⟩,
    ⟨(some 102), .ld none (.t 101), (some (99, true))⟩,
    ⟨(some 103), .bin .eql (.t 102) (.c (.int .i64 7)), (some (99, true))⟩,
    ⟨(some 104), .pick (.t 99) (.t 103) (.c (.bool false)), none⟩,
    ⟨(some 0), .mv (.t 104), none⟩])
  (.ret)

/-- A part of reeve/reevelaw7.RightKnown. -/
def k9_4 : ACode :=
  .seq (.region [
    ⟨(some 31), .call 34 [(.c (.str [45]))], none⟩,
    ⟨(some 30), .mv (.t 31), none⟩,
    ⟨(some 32), .ext (.t 30) 0, none⟩,
    ⟨(some 33), .ext (.t 30) 1, none⟩,
    ⟨(some 5), .mv (.t 32), none⟩,
    ⟨(some 6), .mv (.t 33), none⟩])
  (.seq (.region [
    ⟨(some 34), .call 36 [], none⟩,
    ⟨(some 7), .mv (.t 34), none⟩])
  k9_3)

/-- A part of reeve/reevelaw7.RightKnown. -/
def k9_5 : ACode :=
  .seq (.region [
    ⟨(some 10), .bsl 1 9 [.str []] [(0, (.c (.str []))), (1, (.c (.str [120]))), (2, (.c (.str [119, 114]))), (3, (.c (.str [114, 114]))), (4, (.c (.str [82]))), (5, (.c (.str [103, 119]))), (6, (.c (.str [114, 103, 119]))), (7, (.c (.str [45, 32]))), (8, (.c (.str [114, 119, 103, 120])))], none⟩,
    ⟨(some 1), .mv (.t 10), none⟩])
  (.seq (.seq (.region [
    ⟨(some 2), .mv (.c (.int .i64 0)), none⟩])
  (.block 0 (
    .loop b9_2)))
  k9_4)

/-- reeve/reevelaw7.RightKnown -/
def c9 : ACode :=
  .seq (.region [
    ⟨(some 0), .mv (.c (.bool false)), none⟩])
  (.seq (.seq (.region [
    ⟨(some 8), .call 16 [], none⟩,
    ⟨(some 9), .un .not (.t 8), none⟩])
  (.cond (.t 9)
    (.seq (.region [
      ⟨(some 0), .mv (.c (.bool false)), none⟩])
    (.ret))
    (.skip)))
  k9_5)
theorem ok9 : fnOk Try.prog 9 c9 105 [.t 0] = true := by kernel_rfl

/-- A part of reeve/reevelaw7.RightSays. -/
def k10_0 : ACode :=
  .seq (.region [
    ⟨(some 23), .mv (.t 0), none⟩,
    ⟨(some 24), .call 17 [(.t 23)], none⟩,
    ⟨(some 25), .mv (.t 0), none⟩,
    ⟨(some 26), .bin .geq (.t 25) (.c (.int .i64 0)), none⟩,
    ⟨(some 27), .mv (.t 26), none⟩,
    ⟨(some 28), .mv (.t 0), (some (27, true))⟩,
    ⟨(some 29), .bin .leq (.t 28) (.c (.int .i64 7)), (some (27, true))⟩,
    ⟨(some 30), .pick (.t 27) (.t 29) (.c (.bool false)), none⟩,
    ⟨(some 31), .eqb false (.t 24) (.t 30), none⟩,
    ⟨(some 32), .mv (.t 31), none⟩,
    ⟨(some 33), .mv (.t 0), (some (32, true))⟩,
    ⟨(some 34), .mv (.t 1), (some (32, true))⟩,
    ⟨(some 35), .call 35 [(.t 33), (.t 34)], (some (32, true))⟩,
    ⟨(some 36), .mv (.t 0), (some (32, true))⟩,
    ⟨(some 37), .mv (.t 1), (some (32, true))⟩,
    ⟨(some 38), .call 39 [(.t 36), (.t 37)], (some (32, true))⟩,
    ⟨(some 39), .eqb false (.t 35) (.t 38), (some (32, true))⟩,
    ⟨(some 40), .pick (.t 32) (.t 39) (.c (.bool false)), none⟩,
    ⟨(some 41), .mv (.t 40), none⟩,
    ⟨(some 42), .mv (.t 0), (some (41, true))⟩,
    ⟨(some 43), .mv (.t 1), (some (41, true))⟩,
    ⟨(some 44), .call 20 [(.t 42), (.t 43)], (some (41, true))⟩,
    ⟨(some 45), .mv (.t 0), (some (41, true))⟩,
    ⟨(some 46), .mv (.t 1), (some (41, true))⟩,
    ⟨(some 47), .call 40 [(.t 45), (.t 46)], (some (41, true))⟩,
    ⟨(some 48), .bin .eql (.t 44) (.t 47), (some (41, true))⟩,
    ⟨(some 49), .pick (.t 41) (.t 48) (.c (.bool false)), none⟩,
    ⟨(some 50), .mv (.t 49), none⟩,
    ⟨(some 51), .mv (.t 0), (some (50, true))⟩,
    ⟨(some 52), .mv (.t 1), (some (50, true))⟩,
    ⟨(some 53), .call 19 [(.t 51), (.t 52)], (some (50, true))⟩,
    ⟨(some 54), .mv (.t 0), (some (50, true))⟩,
    ⟨(some 55), .mv (.t 1), (some (50, true))⟩,
    ⟨(some 56), .call 41 [(.t 54), (.t 55)], (some (50, true))⟩,
    ⟨(some 57), .bin .eql (.t 53) (.t 56), (some (50, true))⟩,
    ⟨(some 58), .pick (.t 50) (.t 57) (.c (.bool false)), none⟩,
    ⟨(some 59), .mv (.t 58), none⟩,
    ⟨(some 60), .mv (.t 0), (some (59, true))⟩,
    ⟨(some 61), .call 18 [(.t 60)], (some (59, true))⟩,
    ⟨(some 62), .mv (.t 0), (some (59, true))⟩,
    ⟨(some 63), .call 42 [(.t 62)], (some (59, true))⟩,
    ⟨(some 64), .sbin .eql (.t 61) (.t 63), (some (59, true))⟩,
    ⟨(some 65), .pick (.t 59) (.t 64) (.c (.bool false)), none⟩,
    ⟨(some 66), .mv (.t 65), none⟩,
    ⟨(some 67), .mv (.t 7), (some (66, true))⟩,
    ⟨(some 68), .mv (.t 9), (some (66, true))⟩,
    ⟨(some 69), .bin .eql (.t 67) (.t 68), (some (66, true))⟩,
    ⟨(some 70), .pick (.t 66) (.t 69) (.c (.bool false)), none⟩,
    ⟨(some 71), .mv (.t 70), none⟩,
    ⟨(some 72), .mv (.t 8), (some (71, true))⟩,
    ⟨(some 73), .mv (.t 10), (some (71, true))⟩,
    ⟨(some 74), .eqb false (.t 72) (.t 73), (some (71, true))⟩,
    ⟨(some 75), .pick (.t 71) (.t 74) (.c (.bool false)), none⟩,
    ⟨(some 76), .mv (.t 75), none⟩,
    ⟨(some 77), .mv (.t 0), (some (76, true))⟩,
    ⟨(some 78), .call 37 [(.t 77)], (some (76, true))⟩,
    ⟨(some 79), .mv (.t 0), (some (76, true))⟩,
    ⟨(some 80), .bin .geq (.t 79) (.c (.int .i64 0)), (some (76, true))⟩,
    ⟨(some 81), .mv (.t 80), (some (76, true))⟩,
    ⟨(some 82), .mv (.t 0), (some (81, true))⟩,
    ⟨(some 83), .bin .leq (.t 82) (.c (.int .i64 65535)), (some (81, true))⟩,
    ⟨(some 84), .pick (.t 81) (.t 83) (.c (.bool false)), (some (76, true))⟩,
    ⟨(some 85), .eqb false (.t 78) (.t 84), (some (76, true))⟩,
    ⟨(some 86), .pick (.t 76) (.t 85) (.c (.bool false)), none⟩,
    ⟨(some 6), .mv (.t 86), none⟩])
  (.ret)

/-- A part of reeve/reevelaw7.RightSays. -/
def k10_1 : ACode :=
  .seq (.region [
    ⟨(some 19), .mv (.t 2), none⟩,
    ⟨(some 20), .call 38 [(.t 19)], none⟩,
    ⟨(some 18), .mv (.t 20), none⟩,
    ⟨(some 21), .ext (.t 18) 0, none⟩,
    ⟨(some 22), .ext (.t 18) 1, none⟩,
    ⟨(some 9), .mv (.t 21), none⟩,
    ⟨(some 10), .mv (.t 22), none⟩])
  k10_0

/-- A part of reeve/reevelaw7.RightSays. -/
def k10_2 : ACode :=
  .seq (.region [
    ⟨(some 14), .mv (.t 2), none⟩,
    ⟨(some 15), .call 34 [(.t 14)], none⟩,
    ⟨(some 13), .mv (.t 15), none⟩,
    ⟨(some 16), .ext (.t 13) 0, none⟩,
    ⟨(some 17), .ext (.t 13) 1, none⟩,
    ⟨(some 7), .mv (.t 16), none⟩,
    ⟨(some 8), .mv (.t 17), none⟩])
  k10_1

/-- reeve/reevelaw7.RightSays -/
def c10 : ACode :=
  .seq (.region [
    ⟨(some 6), .mv (.c (.bool false)), none⟩])
  (.seq (.seq (.region [
    ⟨(some 11), .call 16 [], none⟩,
    ⟨(some 12), .un .not (.t 11), none⟩])
  (.cond (.t 12)
    (.seq (.region [
      ⟨(some 6), .mv (.c (.bool false)), none⟩])
    (.ret))
    (.skip)))
  k10_2)
theorem ok10 : fnOk Try.prog 10 c10 87 [.t 6] = true := by kernel_rfl

/-- A part of reeve/reevelaw3.NvmSwaps. -/
def k11_0 : ACode :=
  .region [
    ⟨(some 68), .mv (.t 7), none⟩,
    ⟨(some 69), .mv (.t 0), none⟩,
    ⟨(some 70), .mv (.t 6), none⟩,
    ⟨(some 71), .ixs 5 (.t 69) (.t 70), none⟩,
    ⟨(some 72), .fld 3 (.t 71), none⟩,
    ⟨(some 73), .ld none (.t 72), none⟩,
    ⟨(some 74), .ixa 8 1 (.t 5) (.t 68), none⟩,
    ⟨none, .st 1 (.t 74) (.t 73), none⟩]

/-- A part of reeve/reevelaw3.NvmSwaps. -/
def k11_1 : ACode :=
  .seq (.region [
    ⟨(some 81), .mv (.t 11), none⟩,
    ⟨(some 82), .bin .neq (.t 81) (.c (.int .i64 0)), none⟩,
    ⟨(some 83), .mv (.t 82), none⟩,
    ⟨(some 84), .mv (.t 10), (some (83, false))⟩,
    ⟨(some 85), .mv (.t 7), (some (83, false))⟩,
    ⟨(some 86), .ixa 8 1 (.t 5) (.t 85), (some (83, false))⟩,
    ⟨(some 87), .ld none (.t 86), (some (83, false))⟩,
    ⟨(some 88), .bin .neq (.t 84) (.t 87), (some (83, false))⟩,
    ⟨(some 89), .pick (.t 83) (.c (.bool true)) (.t 88), none⟩])
  (.cond (.t 89)
    (.seq (.region [
      ⟨(some 2), .mv (.c (.bool false)), none⟩])
    (.ret))
    (.skip))

/-- A part of reeve/reevelaw3.NvmSwaps. -/
def k11_2 : ACode :=
  .seq (.region [
    ⟨(some 76), .mv (.t 3), none⟩,
    ⟨(some 77), .mv (.t 7), none⟩,
    ⟨(some 78), .call 46 [(.t 76), (.t 77)], none⟩,
    ⟨(some 75), .mv (.t 78), none⟩,
    ⟨(some 79), .ext (.t 75) 0, none⟩,
    ⟨(some 80), .ext (.t 75) 1, none⟩,
    ⟨(some 10), .mv (.t 79), none⟩,
    ⟨(some 11), .mv (.t 80), none⟩])
  k11_1

/-- A part of reeve/reevelaw3.NvmSwaps. -/
def k11_3 : ACode :=
  .seq (.seq (.drawn [
    ⟨(some 52), .mv (.t 9), none⟩,
    ⟨(some 53), .bin .neq (.t 52) (.c (.int .i64 0)), none⟩,
    ⟨(some 54), .mv (.t 53), none⟩,
    ⟨(some 55), .mv (.t 8), (some (54, false))⟩,
    ⟨(some 56), .mv (.t 7), (some (54, false))⟩,
    ⟨(some 57), .ixa 8 1 (.t 5) (.t 56), (some (54, false))⟩,
    ⟨(some 58), .ld none (.t 57), (some (54, false))⟩,
    ⟨(some 59), .mv (.t 0), (some (54, false))⟩,
    ⟨(some 60), .mv (.t 6), (some (54, false))⟩,
    ⟨(some 61), .ixs 5 (.t 59) (.t 60), (some (54, false))⟩,
    ⟨(some 62), .fld 2 (.t 61), (some (54, false))⟩,
    ⟨(some 63), .ld none (.t 62), (some (54, false))⟩,
    ⟨(some 64), .bin .eql (.t 58) (.t 63), (some (54, false))⟩,
    ⟨(some 65), .eqb true (.t 55) (.t 64), (some (54, false))⟩,
    ⟨(some 66), .pick (.t 54) (.c (.bool true)) (.t 65), none⟩]
  [[], [0], [1], [2], [2], [4, 2], [5, 2], [2], [2], [7, 8, 2], [9, 2], [10, 2], [6, 11, 2], [3, 12, 2], [2, 13]]
  [0, 1, 2, 3, 4, 5, 6, 7, 8, 9, 10, 11, 12, 13, 14])
  (.cond (.t 66)
    (.seq (.region [
      ⟨(some 2), .mv (.c (.bool false)), none⟩])
    (.ret))
    (.skip)))
  (.seq (.seq (.region [
    ⟨(some 67), .mv (.t 8), none⟩])
  (.cond (.t 67)
    k11_0
    (.skip)))
  k11_2)

/-- A part of reeve/reevelaw3.NvmSwaps. -/
def k11_4 : ACode :=
  .seq (.drawn [
    ⟨(some 37), .mv (.t 3), none⟩,
    ⟨(some 38), .mv (.t 7), none⟩,
    ⟨(some 39), .mv (.t 0), none⟩,
    ⟨(some 40), .mv (.t 6), none⟩,
    ⟨(some 41), .ixs 5 (.t 39) (.t 40), none⟩,
    ⟨(some 42), .fld 2 (.t 41), none⟩,
    ⟨(some 43), .ld none (.t 42), none⟩,
    ⟨(some 44), .mv (.t 0), none⟩,
    ⟨(some 45), .mv (.t 6), none⟩,
    ⟨(some 46), .ixs 5 (.t 44) (.t 45), none⟩,
    ⟨(some 47), .fld 3 (.t 46), none⟩,
    ⟨(some 48), .ld none (.t 47), none⟩,
    ⟨(some 49), .call 45 [(.t 37), (.t 38), (.t 43), (.t 48)], none⟩,
    ⟨(some 36), .mv (.t 49), none⟩,
    ⟨(some 50), .ext (.t 36) 0, none⟩,
    ⟨(some 51), .ext (.t 36) 1, none⟩,
    ⟨(some 8), .mv (.t 50), none⟩,
    ⟨(some 9), .mv (.t 51), none⟩]
  [[], [], [], [], [2, 3], [4], [5], [], [], [7, 8], [9], [10], [0, 1, 6, 11], [12], [13], [13], [14, 12, 0, 1, 2, 3, 4, 5, 6, 7, 8, 9, 10, 11, 12, 13, 14], [15, 16, 0, 1, 2, 3, 4, 5, 6, 7, 8, 9, 10, 11, 12, 13, 14, 15, 16]]
  [0, 1, 2, 3, 4, 5, 6, 7, 8, 9, 10, 11, 12, 13, 14, 15, 16, 17])
  k11_3

/-- A part of reeve/reevelaw3.NvmSwaps. -/
def k11_5 : ACode :=
  .seq (.block 1 (
    .seq (.region [
      ⟨(some 30), .mv (.t 0), none⟩,
      ⟨(some 31), .mv (.t 6), none⟩,
      ⟨(some 32), .ixs 5 (.t 30) (.t 31), none⟩,
      ⟨(some 33), .fld 1 (.t 32), none⟩,
      ⟨(some 34), .ld none (.t 33), none⟩,
      ⟨(some 35), .bin .and (.t 34) (.c (.int .i64 7)), none⟩,
      ⟨(some 7), .mv (.t 35), none⟩])
    k11_4))
  (.region [
    ⟨(some 28), .mv (.t 6), none⟩,
    ⟨(some 29), .bin .add (.t 28) (.c (.int .i64 1)), none⟩,
    ⟨(some 6), .mv (.t 29), none⟩])

/-- A part of reeve/reevelaw3.NvmSwaps. -/
def b11_6 : ACode :=
  .seq (.seq (.region [
    ⟨(some 24), .mv (.t 6), none⟩,
    ⟨(some 25), .mv (.t 0), none⟩,
    ⟨(some 26), .len false (.t 25), none⟩,
    ⟨(some 27), .bin .lss (.t 24) (.t 26), none⟩])
  (.cond (.t 27)
    (.skip)
    (.exit 0)))
  k11_5

/-- A part of reeve/reevelaw3.NvmSwaps. -/
def k11_7 : ACode :=
  .seq (.region [
    ⟨(some 23), .build [.int .u64 0, .int .u64 0, .int .u64 0, .int .u64 0, .int .u64 0, .int .u64 0, .int .u64 0, .int .u64 0] [], none⟩,
    ⟨(some 5), .new [.int .u64 0, .int .u64 0, .int .u64 0, .int .u64 0, .int .u64 0, .int .u64 0, .int .u64 0, .int .u64 0], none⟩,
    ⟨none, .st 8 (.t 5) (.t 23), none⟩])
  (.seq (.seq (.region [
    ⟨(some 6), .mv (.c (.int .i64 0)), none⟩])
  (.block 0 (
    .loop b11_6)))
  (.seq (.region [
    ⟨(some 2), .mv (.c (.bool true)), none⟩])
  (.ret)))

/-- A part of reeve/reevelaw3.NvmSwaps. -/
def k11_8 : ACode :=
  .seq (.region [
    ⟨(some 18), .call 44 [(.c (.int .i64 1))], none⟩,
    ⟨(some 17), .mv (.t 18), none⟩,
    ⟨(some 19), .ext (.t 17) 0, none⟩,
    ⟨(some 20), .ext (.t 17) 1, none⟩,
    ⟨(some 3), .mv (.t 19), none⟩,
    ⟨(some 4), .mv (.t 20), none⟩])
  (.seq (.seq (.region [
    ⟨(some 21), .mv (.t 3), none⟩,
    ⟨(some 22), .isNil false 0 (.t 21), none⟩])
  (.cond (.t 22)
    (.seq (.region [
      ⟨(some 2), .mv (.c (.bool false)), none⟩])
    (.ret))
    (.skip)))
  k11_7)

/-- A part of reeve/reevelaw3.NvmSwaps. -/
def k11_9 : ACode :=
  .seq (.seq (.region [
    ⟨(some 14), .mv (.t 0), none⟩,
    ⟨(some 15), .len false (.t 14), none⟩,
    ⟨(some 16), .bin .gtr (.t 15) (.c (.int .i64 60)), none⟩])
  (.cond (.t 16)
    (.seq (.region [
      ⟨(some 2), .mv (.c (.bool true)), none⟩])
    (.ret))
    (.skip)))
  k11_8

/-- reeve/reevelaw3.NvmSwaps -/
def c11 : ACode :=
  .seq (.region [
    ⟨(some 2), .mv (.c (.bool false)), none⟩])
  (.seq (.seq (.region [
    ⟨(some 12), .call 43 [], none⟩,
    ⟨(some 13), .un .not (.t 12), none⟩])
  (.cond (.t 13)
    (.seq (.region [
      ⟨(some 2), .mv (.c (.bool false)), none⟩])
    (.ret))
    (.skip)))
  k11_9)
theorem ok11 : fnOk Try.prog 11 c11 90 [.t 2] = true := by kernel_rfl

/-- A part of reeve/reevelaw3.NvmSure. -/
def k12_0 : ACode :=
  .seq (.block 1 (
    .drawn [
      ⟨(some 46), .mv (.t 7), none⟩,
      ⟨(some 47), .mv (.t 0), none⟩,
      ⟨(some 48), .mv (.t 9), none⟩,
      ⟨(some 49), .ixs 5 (.t 47) (.t 48), none⟩,
      ⟨(some 50), .fld 1 (.t 49), none⟩,
      ⟨(some 51), .ld none (.t 50), none⟩,
      ⟨(some 52), .mv (.t 0), none⟩,
      ⟨(some 53), .mv (.t 9), none⟩,
      ⟨(some 54), .ixs 5 (.t 52) (.t 53), none⟩,
      ⟨(some 55), .fld 3 (.t 54), none⟩,
      ⟨(some 56), .ld none (.t 55), none⟩,
      ⟨(some 57), .call 47 [(.t 46), (.t 51), (.t 56)], none⟩]
    [[], [], [], [1, 2], [3], [4], [], [], [6, 7], [8], [9], [0, 5, 10]]
    [0, 1, 2, 3, 4, 5, 6, 7, 8, 9, 10, 11]))
  (.region [
    ⟨(some 44), .mv (.t 9), none⟩,
    ⟨(some 45), .bin .add (.t 44) (.c (.int .i64 1)), none⟩,
    ⟨(some 9), .mv (.t 45), none⟩])

/-- A part of reeve/reevelaw3.NvmSure. -/
def b12_1 : ACode :=
  .seq (.seq (.region [
    ⟨(some 40), .mv (.t 9), none⟩,
    ⟨(some 41), .mv (.t 0), none⟩,
    ⟨(some 42), .len false (.t 41), none⟩,
    ⟨(some 43), .bin .lss (.t 40) (.t 42), none⟩])
  (.cond (.t 43)
    (.skip)
    (.exit 0)))
  k12_0

/-- A part of reeve/reevelaw3.NvmSure. -/
def k12_2 : ACode :=
  .seq (.block 3 (
    .seq (.region [
      ⟨(some 62), .mv (.t 7), none⟩,
      ⟨(some 63), .mv (.t 10), none⟩,
      ⟨(some 64), .call 48 [(.t 62), (.t 63)], none⟩,
      ⟨(some 65), .bin .neq (.t 64) (.c (.int .i64 0)), none⟩])
    (.cond (.t 65)
      (.seq (.region [
        ⟨(some 6), .mv (.c (.bool false)), none⟩])
      (.ret))
      (.skip))))
  (.region [
    ⟨(some 60), .mv (.t 10), none⟩,
    ⟨(some 61), .bin .add (.t 60) (.c (.int .i64 1)), none⟩,
    ⟨(some 10), .mv (.t 61), none⟩])

/-- A part of reeve/reevelaw3.NvmSure. -/
def b12_3 : ACode :=
  .seq (.seq (.region [
    ⟨(some 58), .mv (.t 10), none⟩,
    ⟨(some 59), .bin .lss (.t 58) (.c (.int .i64 4)), none⟩])
  (.cond (.t 59)
    (.skip)
    (.exit 2)))
  k12_2

/-- A part of reeve/reevelaw3.NvmSure. -/
def k12_4 : ACode :=
  .seq (.block 5 (
    .drawn [
      ⟨(some 83), .mv (.t 7), none⟩,
      ⟨(some 84), .mv (.t 1), none⟩,
      ⟨(some 85), .mv (.t 12), none⟩,
      ⟨(some 86), .ixs 5 (.t 84) (.t 85), none⟩,
      ⟨(some 87), .fld 1 (.t 86), none⟩,
      ⟨(some 88), .ld none (.t 87), none⟩,
      ⟨(some 89), .mv (.t 1), none⟩,
      ⟨(some 90), .mv (.t 12), none⟩,
      ⟨(some 91), .ixs 5 (.t 89) (.t 90), none⟩,
      ⟨(some 92), .fld 3 (.t 91), none⟩,
      ⟨(some 93), .ld none (.t 92), none⟩,
      ⟨(some 94), .call 47 [(.t 83), (.t 88), (.t 93)], none⟩]
    [[], [], [], [1, 2], [3], [4], [], [], [6, 7], [8], [9], [0, 5, 10]]
    [0, 1, 2, 3, 4, 5, 6, 7, 8, 9, 10, 11]))
  (.region [
    ⟨(some 81), .mv (.t 12), none⟩,
    ⟨(some 82), .bin .add (.t 81) (.c (.int .i64 1)), none⟩,
    ⟨(some 12), .mv (.t 82), none⟩])

/-- A part of reeve/reevelaw3.NvmSure. -/
def b12_5 : ACode :=
  .seq (.seq (.region [
    ⟨(some 77), .mv (.t 12), none⟩,
    ⟨(some 78), .mv (.t 1), none⟩,
    ⟨(some 79), .len false (.t 78), none⟩,
    ⟨(some 80), .bin .lss (.t 77) (.t 79), none⟩])
  (.cond (.t 80)
    (.skip)
    (.exit 4)))
  k12_4

/-- A part of reeve/reevelaw3.NvmSure. -/
def k12_6 : ACode :=
  .seq (.block 9 (
    .region [
      ⟨(some 125), .mv (.t 16), none⟩,
      ⟨(some 126), .mv (.t 125), none⟩,
      ⟨(some 127), .mv (.t 2), (some (126, false))⟩,
      ⟨(some 128), .mv (.t 17), (some (126, false))⟩,
      ⟨(some 129), .ixs 1 (.t 127) (.t 128), (some (126, false))⟩,
      ⟨(some 130), .ld none (.t 129), (some (126, false))⟩,
      ⟨(some 131), .mv (.t 15), (some (126, false))⟩,
      ⟨(some 132), .bin .eql (.t 130) (.t 131), (some (126, false))⟩,
      ⟨(some 133), .pick (.t 126) (.c (.bool true)) (.t 132), none⟩,
      ⟨(some 16), .mv (.t 133), none⟩]))
  (.region [
    ⟨(some 123), .mv (.t 17), none⟩,
    ⟨(some 124), .bin .add (.t 123) (.c (.int .i64 1)), none⟩,
    ⟨(some 17), .mv (.t 124), none⟩])

/-- A part of reeve/reevelaw3.NvmSure. -/
def b12_7 : ACode :=
  .seq (.seq (.region [
    ⟨(some 119), .mv (.t 17), none⟩,
    ⟨(some 120), .mv (.t 2), none⟩,
    ⟨(some 121), .len false (.t 120), none⟩,
    ⟨(some 122), .bin .lss (.t 119) (.t 121), none⟩])
  (.cond (.t 122)
    (.skip)
    (.exit 8)))
  k12_6

/-- A part of reeve/reevelaw3.NvmSure. -/
def k12_8 : ACode :=
  .seq (.block 11 (
    .seq (.drawn [
      ⟨(some 143), .mv (.t 16), none⟩,
      ⟨(some 144), .mv (.t 143), none⟩,
      ⟨(some 145), .mv (.t 14), (some (144, true))⟩,
      ⟨(some 146), .mv (.t 18), (some (144, true))⟩,
      ⟨(some 147), .ixs 1 (.t 145) (.t 146), (some (144, true))⟩,
      ⟨(some 148), .ld none (.t 147), (some (144, true))⟩,
      ⟨(some 149), .mv (.t 13), (some (144, true))⟩,
      ⟨(some 150), .mv (.t 18), (some (144, true))⟩,
      ⟨(some 151), .ixs 1 (.t 149) (.t 150), (some (144, true))⟩,
      ⟨(some 152), .ld none (.t 151), (some (144, true))⟩,
      ⟨(some 153), .bin .neq (.t 148) (.t 152), (some (144, true))⟩,
      ⟨(some 154), .pick (.t 144) (.t 153) (.c (.bool false)), none⟩,
      ⟨(some 155), .mv (.t 154), none⟩,
      ⟨(some 156), .mv (.t 16), (some (155, false))⟩,
      ⟨(some 157), .un .not (.t 156), (some (155, false))⟩,
      ⟨(some 158), .mv (.t 157), (some (155, false))⟩,
      ⟨(some 159), .mv (.t 14), (some (158, true))⟩,
      ⟨(some 160), .mv (.t 18), (some (158, true))⟩,
      ⟨(some 161), .ixs 1 (.t 159) (.t 160), (some (158, true))⟩,
      ⟨(some 162), .ld none (.t 161), (some (158, true))⟩,
      ⟨(some 163), .mv (.t 11), (some (158, true))⟩,
      ⟨(some 164), .mv (.t 18), (some (158, true))⟩,
      ⟨(some 165), .ixs 1 (.t 163) (.t 164), (some (158, true))⟩,
      ⟨(some 166), .ld none (.t 165), (some (158, true))⟩,
      ⟨(some 167), .bin .neq (.t 162) (.t 166), (some (158, true))⟩,
      ⟨(some 168), .pick (.t 158) (.t 167) (.c (.bool false)), (some (155, false))⟩,
      ⟨(some 169), .pick (.t 155) (.c (.bool true)) (.t 168), none⟩]
    [[], [0], [1], [1], [2, 3, 1], [4, 1], [1], [1], [6, 7, 1], [8, 1], [5, 9, 1], [1, 10], [11, 1], [12], [13, 12], [14, 12, 12], [15], [15], [16, 17, 15], [18, 15], [15], [15], [20, 21, 15], [22, 15], [19, 23, 15], [15, 24, 12], [12, 25]]
    [0, 1, 2, 3, 4, 5, 6, 7, 8, 9, 10, 11, 12, 13, 14, 15, 16, 17, 18, 19, 20, 21, 22, 23, 24, 25, 26])
    (.cond (.t 169)
      (.seq (.region [
        ⟨(some 6), .mv (.c (.bool false)), none⟩])
      (.ret))
      (.skip))))
  (.region [
    ⟨(some 141), .mv (.t 18), none⟩,
    ⟨(some 142), .bin .add (.t 141) (.c (.int .i64 1)), none⟩,
    ⟨(some 18), .mv (.t 142), none⟩])

/-- A part of reeve/reevelaw3.NvmSure. -/
def b12_9 : ACode :=
  .seq (.seq (.region [
    ⟨(some 136), .mv (.t 18), none⟩,
    ⟨(some 137), .mv (.t 15), none⟩,
    ⟨(some 138), .bin .mul (.c (.int .i64 8)) (.t 137), none⟩,
    ⟨(some 139), .bin .add (.t 138) (.c (.int .i64 8)), none⟩,
    ⟨(some 140), .bin .lss (.t 136) (.t 139), none⟩])
  (.cond (.t 140)
    (.skip)
    (.exit 10)))
  k12_8

/-- A part of reeve/reevelaw3.NvmSure. -/
def k12_10 : ACode :=
  .seq (.seq (.region [
    ⟨(some 17), .mv (.c (.int .i64 0)), none⟩])
  (.block 8 (
    .loop b12_7)))
  (.seq (.region [
    ⟨(some 134), .mv (.t 15), none⟩,
    ⟨(some 135), .bin .mul (.c (.int .i64 8)) (.t 134), none⟩,
    ⟨(some 18), .mv (.t 135), none⟩])
  (.block 10 (
    .loop b12_9)))

/-- A part of reeve/reevelaw3.NvmSure. -/
def b12_11 : ACode :=
  .seq (.seq (.region [
    ⟨(some 115), .mv (.t 15), none⟩,
    ⟨(some 116), .bin .lss (.t 115) (.c (.int .i64 4)), none⟩])
  (.cond (.t 116)
    (.skip)
    (.exit 6)))
  (.seq (.block 7 (
    .seq (.region [
      ⟨(some 16), .mv (.c (.bool false)), none⟩])
    k12_10))
  (.region [
    ⟨(some 117), .mv (.t 15), none⟩,
    ⟨(some 118), .bin .add (.t 117) (.c (.int .i64 1)), none⟩,
    ⟨(some 15), .mv (.t 118), none⟩]))

/-- A part of reeve/reevelaw3.NvmSure. -/
def k12_12 : ACode :=
  .seq (.seq (.region [
    ⟨(some 102), .mv (.t 11), none⟩,
    ⟨(some 103), .len false (.t 102), none⟩,
    ⟨(some 104), .bin .neq (.t 103) (.c (.int .i64 32)), none⟩,
    ⟨(some 105), .mv (.t 104), none⟩,
    ⟨(some 106), .mv (.t 13), (some (105, false))⟩,
    ⟨(some 107), .len false (.t 106), (some (105, false))⟩,
    ⟨(some 108), .bin .neq (.t 107) (.c (.int .i64 32)), (some (105, false))⟩,
    ⟨(some 109), .pick (.t 105) (.c (.bool true)) (.t 108), none⟩,
    ⟨(some 110), .mv (.t 109), none⟩,
    ⟨(some 111), .mv (.t 14), (some (110, false))⟩,
    ⟨(some 112), .len false (.t 111), (some (110, false))⟩,
    ⟨(some 113), .bin .neq (.t 112) (.c (.int .i64 32)), (some (110, false))⟩,
    ⟨(some 114), .pick (.t 110) (.c (.bool true)) (.t 113), none⟩])
  (.cond (.t 114)
    (.seq (.region [
      ⟨(some 6), .mv (.c (.bool false)), none⟩])
    (.ret))
    (.skip)))
  (.seq (.seq (.region [
    ⟨(some 15), .mv (.c (.int .i64 0)), none⟩])
  (.block 6 (
    .loop b12_11)))
  (.seq (.region [
    ⟨(some 6), .mv (.c (.bool true)), none⟩])
  (.ret)))

/-- A part of reeve/reevelaw3.NvmSure. -/
def k12_13 : ACode :=
  .seq (.region [
    ⟨(some 97), .mv (.t 7), none⟩,
    ⟨(some 98), .mv (.t 2), none⟩,
    ⟨(some 99), .call 52 [(.t 97), (.t 98)], none⟩])
  (.seq (.region [
    ⟨(some 100), .mv (.t 7), none⟩,
    ⟨(some 101), .call 51 [(.t 100)], none⟩,
    ⟨(some 14), .mv (.t 101), none⟩])
  k12_12)

/-- A part of reeve/reevelaw3.NvmSure. -/
def k12_14 : ACode :=
  .seq (.region [
    ⟨(some 75), .mv (.t 7), none⟩,
    ⟨(some 76), .call 51 [(.t 75)], none⟩,
    ⟨(some 11), .mv (.t 76), none⟩])
  (.seq (.seq (.region [
    ⟨(some 12), .mv (.c (.int .i64 0)), none⟩])
  (.block 4 (
    .loop b12_5)))
  (.seq (.region [
    ⟨(some 95), .mv (.t 7), none⟩,
    ⟨(some 96), .call 51 [(.t 95)], none⟩,
    ⟨(some 13), .mv (.t 96), none⟩])
  k12_13))

/-- A part of reeve/reevelaw3.NvmSure. -/
def k12_15 : ACode :=
  .seq (.seq (.region [
    ⟨(some 66), .mv (.t 7), none⟩,
    ⟨(some 67), .call 49 [(.t 66)], none⟩,
    ⟨(some 68), .bin .neq (.t 67) (.c (.int .i64 0)), none⟩,
    ⟨(some 69), .mv (.t 68), none⟩,
    ⟨(some 70), .mv (.t 7), (some (69, false))⟩,
    ⟨(some 71), .call 50 [(.t 70)], (some (69, false))⟩,
    ⟨(some 72), .len false (.t 71), (some (69, false))⟩,
    ⟨(some 73), .bin .neq (.t 72) (.c (.int .i64 0)), (some (69, false))⟩,
    ⟨(some 74), .pick (.t 69) (.c (.bool true)) (.t 73), none⟩])
  (.cond (.t 74)
    (.seq (.region [
      ⟨(some 6), .mv (.c (.bool false)), none⟩])
    (.ret))
    (.skip)))
  k12_14

/-- A part of reeve/reevelaw3.NvmSure. -/
def k12_16 : ACode :=
  .seq (.seq (.region [
    ⟨(some 38), .mv (.t 7), none⟩,
    ⟨(some 39), .isNil false 0 (.t 38), none⟩])
  (.cond (.t 39)
    (.seq (.region [
      ⟨(some 6), .mv (.c (.bool false)), none⟩])
    (.ret))
    (.skip)))
  (.seq (.seq (.region [
    ⟨(some 9), .mv (.c (.int .i64 0)), none⟩])
  (.block 0 (
    .loop b12_1)))
  (.seq (.seq (.region [
    ⟨(some 10), .mv (.c (.int .i64 0)), none⟩])
  (.block 2 (
    .loop b12_3)))
  k12_15))

/-- A part of reeve/reevelaw3.NvmSure. -/
def k12_17 : ACode :=
  .seq (.region [
    ⟨(some 35), .call 44 [(.c (.int .i64 4))], none⟩,
    ⟨(some 34), .mv (.t 35), none⟩,
    ⟨(some 36), .ext (.t 34) 0, none⟩,
    ⟨(some 37), .ext (.t 34) 1, none⟩,
    ⟨(some 7), .mv (.t 36), none⟩,
    ⟨(some 8), .mv (.t 37), none⟩])
  k12_16

/-- A part of reeve/reevelaw3.NvmSure. -/
def k12_18 : ACode :=
  .seq (.seq (.region [
    ⟨(some 21), .mv (.t 0), none⟩,
    ⟨(some 22), .len false (.t 21), none⟩,
    ⟨(some 23), .bin .gtr (.t 22) (.c (.int .i64 40)), none⟩,
    ⟨(some 24), .mv (.t 23), none⟩,
    ⟨(some 25), .mv (.t 1), (some (24, false))⟩,
    ⟨(some 26), .len false (.t 25), (some (24, false))⟩,
    ⟨(some 27), .bin .gtr (.t 26) (.c (.int .i64 40)), (some (24, false))⟩,
    ⟨(some 28), .pick (.t 24) (.c (.bool true)) (.t 27), none⟩,
    ⟨(some 29), .mv (.t 28), none⟩,
    ⟨(some 30), .mv (.t 2), (some (29, false))⟩,
    ⟨(some 31), .len false (.t 30), (some (29, false))⟩,
    ⟨(some 32), .bin .gtr (.t 31) (.c (.int .i64 20)), (some (29, false))⟩,
    ⟨(some 33), .pick (.t 29) (.c (.bool true)) (.t 32), none⟩])
  (.cond (.t 33)
    (.seq (.region [
      ⟨(some 6), .mv (.c (.bool true)), none⟩])
    (.ret))
    (.skip)))
  k12_17

/-- reeve/reevelaw3.NvmSure -/
def c12 : ACode :=
  .seq (.region [
    ⟨(some 6), .mv (.c (.bool false)), none⟩])
  (.seq (.seq (.region [
    ⟨(some 19), .call 43 [], none⟩,
    ⟨(some 20), .un .not (.t 19), none⟩])
  (.cond (.t 20)
    (.seq (.region [
      ⟨(some 6), .mv (.c (.bool false)), none⟩])
    (.ret))
    (.skip)))
  k12_18)
theorem ok12 : fnOk Try.prog 12 c12 170 [.t 6] = true := by kernel_rfl

/-- A part of reeve/reevelaw3.NvmFrom. -/
def k13_0 : ACode :=
  .seq (.region [
    ⟨(some 31), .mv (.t 6), none⟩,
    ⟨(some 32), .bin .eql (.t 31) (.c (.int .i64 1)), none⟩,
    ⟨(some 33), .mv (.t 32), none⟩,
    ⟨(some 34), .mv (.t 5), (some (33, true))⟩,
    ⟨(some 35), .isNil false 0 (.t 34), (some (33, true))⟩,
    ⟨(some 36), .pick (.t 33) (.t 35) (.c (.bool false)), none⟩,
    ⟨(some 4), .mv (.t 36), none⟩])
  (.ret)

/-- A part of reeve/reevelaw3.NvmFrom. -/
def k13_1 : ACode :=
  .seq (.region [
    ⟨(some 67), .mv (.t 5), none⟩,
    ⟨(some 68), .call 51 [(.t 67)], none⟩,
    ⟨(some 69), .mv (.t 0), none⟩,
    ⟨(some 70), .call 55 [(.t 68), (.t 69)], none⟩,
    ⟨(some 71), .mv (.t 70), none⟩,
    ⟨(some 72), .mv (.t 5), (some (71, true))⟩,
    ⟨(some 73), .call 56 [(.t 72)], (some (71, true))⟩,
    ⟨(some 74), .bin .eql (.t 73) (.c (.int .i64 0)), (some (71, true))⟩,
    ⟨(some 75), .pick (.t 71) (.t 74) (.c (.bool false)), none⟩,
    ⟨(some 76), .mv (.t 75), none⟩,
    ⟨(some 77), .mv (.t 5), (some (76, true))⟩,
    ⟨(some 78), .call 57 [(.t 77)], (some (76, true))⟩,
    ⟨(some 79), .pick (.t 76) (.t 78) (.c (.bool false)), none⟩,
    ⟨(some 4), .mv (.t 79), none⟩])
  (.ret)

/-- A part of reeve/reevelaw3.NvmFrom. -/
def k13_2 : ACode :=
  .seq (.seq (.region [
    ⟨(some 37), .mv (.t 6), none⟩,
    ⟨(some 38), .bin .neq (.t 37) (.c (.int .i64 0)), none⟩,
    ⟨(some 39), .mv (.t 38), none⟩,
    ⟨(some 40), .mv (.t 5), (some (39, false))⟩,
    ⟨(some 41), .isNil false 0 (.t 40), (some (39, false))⟩,
    ⟨(some 42), .pick (.t 39) (.c (.bool true)) (.t 41), none⟩,
    ⟨(some 43), .mv (.t 42), none⟩,
    ⟨(some 44), .mv (.t 5), (some (43, false))⟩,
    ⟨(some 45), .call 54 [(.t 44)], (some (43, false))⟩,
    ⟨(some 46), .mv (.t 0), (some (43, false))⟩,
    ⟨(some 47), .len false (.t 46), (some (43, false))⟩,
    ⟨(some 48), .bin .quo (.t 47) (.c (.int .i64 8)), (some (43, false))⟩,
    ⟨(some 49), .bin .neq (.t 45) (.t 48), (some (43, false))⟩,
    ⟨(some 50), .pick (.t 43) (.c (.bool true)) (.t 49), none⟩,
    ⟨(some 51), .mv (.t 50), none⟩,
    ⟨(some 52), .mv (.t 5), (some (51, false))⟩,
    ⟨(some 53), .call 50 [(.t 52)], (some (51, false))⟩,
    ⟨(some 54), .len false (.t 53), (some (51, false))⟩,
    ⟨(some 55), .bin .neq (.t 54) (.c (.int .i64 0)), (some (51, false))⟩,
    ⟨(some 56), .pick (.t 51) (.c (.bool true)) (.t 55), none⟩,
    ⟨(some 57), .mv (.t 56), none⟩,
    ⟨(some 58), .mv (.t 5), (some (57, false))⟩,
    ⟨(some 59), .call 51 [(.t 58)], (some (57, false))⟩,
    ⟨(some 60), .mv (.t 0), (some (57, false))⟩,
    ⟨(some 61), .call 55 [(.t 59), (.t 60)], (some (57, false))⟩,
    ⟨(some 62), .un .not (.t 61), (some (57, false))⟩,
    ⟨(some 63), .pick (.t 57) (.c (.bool true)) (.t 62), none⟩])
  (.cond (.t 63)
    (.seq (.region [
      ⟨(some 4), .mv (.c (.bool false)), none⟩])
    (.ret))
    (.skip)))
  (.seq (.region [
    ⟨(some 64), .mv (.t 5), none⟩,
    ⟨(some 65), .mv (.t 1), none⟩,
    ⟨(some 66), .call 52 [(.t 64), (.t 65)], none⟩])
  k13_1)

/-- A part of reeve/reevelaw3.NvmFrom. -/
def k13_3 : ACode :=
  .seq (.seq (.region [
    ⟨(some 22), .mv (.t 0), none⟩,
    ⟨(some 23), .len false (.t 22), none⟩,
    ⟨(some 24), .bin .eql (.t 23) (.c (.int .i64 0)), none⟩,
    ⟨(some 25), .mv (.t 24), none⟩,
    ⟨(some 26), .mv (.t 0), (some (25, false))⟩,
    ⟨(some 27), .len false (.t 26), (some (25, false))⟩,
    ⟨(some 28), .bin .rem (.t 27) (.c (.int .i64 8)), (some (25, false))⟩,
    ⟨(some 29), .bin .neq (.t 28) (.c (.int .i64 0)), (some (25, false))⟩,
    ⟨(some 30), .pick (.t 25) (.c (.bool true)) (.t 29), none⟩])
  (.cond (.t 30)
    k13_0
    (.skip)))
  k13_2

/-- A part of reeve/reevelaw3.NvmFrom. -/
def k13_4 : ACode :=
  .seq (.region [
    ⟨(some 18), .mv (.t 0), none⟩,
    ⟨(some 19), .call 53 [(.t 18)], none⟩,
    ⟨(some 17), .mv (.t 19), none⟩,
    ⟨(some 20), .ext (.t 17) 0, none⟩,
    ⟨(some 21), .ext (.t 17) 1, none⟩,
    ⟨(some 5), .mv (.t 20), none⟩,
    ⟨(some 6), .mv (.t 21), none⟩])
  k13_3

/-- A part of reeve/reevelaw3.NvmFrom. -/
def k13_5 : ACode :=
  .seq (.seq (.region [
    ⟨(some 9), .mv (.t 0), none⟩,
    ⟨(some 10), .len false (.t 9), none⟩,
    ⟨(some 11), .bin .gtr (.t 10) (.c (.int .i64 400)), none⟩,
    ⟨(some 12), .mv (.t 11), none⟩,
    ⟨(some 13), .mv (.t 1), (some (12, false))⟩,
    ⟨(some 14), .len false (.t 13), (some (12, false))⟩,
    ⟨(some 15), .bin .gtr (.t 14) (.c (.int .i64 60)), (some (12, false))⟩,
    ⟨(some 16), .pick (.t 12) (.c (.bool true)) (.t 15), none⟩])
  (.cond (.t 16)
    (.seq (.region [
      ⟨(some 4), .mv (.c (.bool true)), none⟩])
    (.ret))
    (.skip)))
  k13_4

/-- reeve/reevelaw3.NvmFrom -/
def c13 : ACode :=
  .seq (.region [
    ⟨(some 4), .mv (.c (.bool false)), none⟩])
  (.seq (.seq (.region [
    ⟨(some 7), .call 43 [], none⟩,
    ⟨(some 8), .un .not (.t 7), none⟩])
  (.cond (.t 8)
    (.seq (.region [
      ⟨(some 4), .mv (.c (.bool false)), none⟩])
    (.ret))
    (.skip)))
  k13_5)
theorem ok13 : fnOk Try.prog 13 c13 80 [.t 4] = true := by kernel_rfl

/-- A part of reeve/reevelaw3.NvmPlays. -/
def k14_0 : ACode :=
  .seq (.region [
    ⟨(some 37), .mv (.t 6), none⟩,
    ⟨(some 38), .bin .eql (.t 37) (.c (.int .i64 1)), none⟩,
    ⟨(some 39), .mv (.t 38), none⟩,
    ⟨(some 40), .mv (.t 5), (some (39, true))⟩,
    ⟨(some 41), .isNil false 0 (.t 40), (some (39, true))⟩,
    ⟨(some 42), .pick (.t 39) (.t 41) (.c (.bool false)), none⟩,
    ⟨(some 4), .mv (.t 42), none⟩])
  (.ret)

/-- A part of reeve/reevelaw3.NvmPlays. -/
def k14_1 : ACode :=
  .drawn [
    ⟨(some 79), .mv (.t 5), none⟩,
    ⟨(some 80), .fld 1 (.t 9), none⟩,
    ⟨(some 81), .ld none (.t 80), none⟩,
    ⟨(some 82), .fld 3 (.t 9), none⟩,
    ⟨(some 83), .ld none (.t 82), none⟩,
    ⟨(some 84), .call 47 [(.t 79), (.t 81), (.t 83)], none⟩,
    ⟨(some 85), .mv (.t 7), none⟩,
    ⟨(some 86), .fld 1 (.t 9), none⟩,
    ⟨(some 87), .ld none (.t 86), none⟩,
    ⟨(some 88), .fld 3 (.t 9), none⟩,
    ⟨(some 89), .ld none (.t 88), none⟩,
    ⟨(some 90), .call 59 [(.t 85), (.t 87), (.t 89)], none⟩,
    ⟨(some 91), .bin .eql (.t 84) (.t 90), none⟩,
    ⟨(some 10), .mv (.t 91), none⟩]
  [[], [], [1], [], [3], [0, 2, 4], [], [], [7], [], [9], [6, 8, 10, 5], [5, 11], [12, 11, 0, 1, 2, 3, 4, 5, 6, 7, 8, 9, 10, 11, 12]]
  [0, 1, 2, 3, 4, 6, 7, 8, 9, 10, 5, 11, 12, 13]

/-- A part of reeve/reevelaw3.NvmPlays. -/
def k14_2 : ACode :=
  .region [
    ⟨(some 116), .mv (.t 11), none⟩,
    ⟨(some 117), .mv (.t 13), none⟩,
    ⟨(some 118), .eqb false (.t 116) (.t 117), none⟩,
    ⟨(some 119), .mv (.t 118), none⟩,
    ⟨(some 120), .mv (.t 12), (some (119, true))⟩,
    ⟨(some 121), .mv (.t 14), (some (119, true))⟩,
    ⟨(some 122), .bin .eql (.t 120) (.t 121), (some (119, true))⟩,
    ⟨(some 123), .pick (.t 119) (.t 122) (.c (.bool false)), none⟩,
    ⟨(some 10), .mv (.t 123), none⟩]

/-- A part of reeve/reevelaw3.NvmPlays. -/
def k14_3 : ACode :=
  .seq (.region [
    ⟨(some 106), .mv (.t 7), none⟩,
    ⟨(some 107), .fld 1 (.t 9), none⟩,
    ⟨(some 108), .ld none (.t 107), none⟩,
    ⟨(some 109), .fld 2 (.t 9), none⟩,
    ⟨(some 110), .ld none (.t 109), none⟩,
    ⟨(some 111), .fld 3 (.t 9), none⟩,
    ⟨(some 112), .ld none (.t 111), none⟩,
    ⟨(some 113), .call 60 [(.t 106), (.t 108), (.t 110), (.t 112)], none⟩,
    ⟨(some 105), .mv (.t 113), none⟩,
    ⟨(some 114), .ext (.t 105) 0, none⟩,
    ⟨(some 115), .ext (.t 105) 1, none⟩,
    ⟨(some 13), .mv (.t 114), none⟩,
    ⟨(some 14), .mv (.t 115), none⟩])
  k14_2

/-- A part of reeve/reevelaw3.NvmPlays. -/
def k14_4 : ACode :=
  .seq (.region [
    ⟨(some 95), .mv (.t 5), none⟩,
    ⟨(some 96), .fld 1 (.t 9), none⟩,
    ⟨(some 97), .ld none (.t 96), none⟩,
    ⟨(some 98), .fld 2 (.t 9), none⟩,
    ⟨(some 99), .ld none (.t 98), none⟩,
    ⟨(some 100), .fld 3 (.t 9), none⟩,
    ⟨(some 101), .ld none (.t 100), none⟩,
    ⟨(some 102), .call 45 [(.t 95), (.t 97), (.t 99), (.t 101)], none⟩,
    ⟨(some 94), .mv (.t 102), none⟩,
    ⟨(some 103), .ext (.t 94) 0, none⟩,
    ⟨(some 104), .ext (.t 94) 1, none⟩,
    ⟨(some 11), .mv (.t 103), none⟩,
    ⟨(some 12), .mv (.t 104), none⟩])
  k14_3

/-- A part of reeve/reevelaw3.NvmPlays. -/
def k14_5 : ACode :=
  .drawn [
    ⟨(some 126), .mv (.t 5), none⟩,
    ⟨(some 127), .fld 1 (.t 9), none⟩,
    ⟨(some 128), .ld none (.t 127), none⟩,
    ⟨(some 129), .call 48 [(.t 126), (.t 128)], none⟩,
    ⟨(some 130), .mv (.t 7), none⟩,
    ⟨(some 131), .fld 1 (.t 9), none⟩,
    ⟨(some 132), .ld none (.t 131), none⟩,
    ⟨(some 133), .call 61 [(.t 130), (.t 132)], none⟩,
    ⟨(some 134), .bin .eql (.t 129) (.t 133), none⟩,
    ⟨(some 10), .mv (.t 134), none⟩]
  [[], [], [1], [0, 2], [], [], [5], [4, 6, 3], [3, 7], [8, 7, 0, 1, 2, 3, 4, 5, 6, 7, 8]]
  [0, 1, 2, 4, 5, 6, 3, 7, 8, 9]

/-- A part of reeve/reevelaw3.NvmPlays. -/
def k14_6 : ACode :=
  .region [
    ⟨(some 137), .mv (.t 5), none⟩,
    ⟨(some 138), .call 49 [(.t 137)], none⟩,
    ⟨(some 139), .mv (.t 7), none⟩,
    ⟨(some 140), .call 62 [(.t 139)], none⟩,
    ⟨(some 141), .bin .eql (.t 138) (.t 140), none⟩,
    ⟨(some 10), .mv (.t 141), none⟩]

/-- A part of reeve/reevelaw3.NvmPlays. -/
def k14_7 : ACode :=
  .drawn [
    ⟨(some 144), .mv (.t 5), none⟩,
    ⟨(some 145), .fld 1 (.t 9), none⟩,
    ⟨(some 146), .ld none (.t 145), none⟩,
    ⟨(some 147), .call 63 [(.t 144), (.t 146)], none⟩,
    ⟨(some 148), .mv (.t 7), none⟩,
    ⟨(some 149), .fld 1 (.t 9), none⟩,
    ⟨(some 150), .ld none (.t 149), none⟩,
    ⟨(some 151), .call 64 [(.t 148), (.t 150)], none⟩,
    ⟨(some 152), .bin .eql (.t 147) (.t 151), none⟩,
    ⟨(some 10), .mv (.t 152), none⟩]
  [[], [], [1], [0, 2], [], [], [5], [4, 6, 3], [3, 7], [8, 7, 0, 1, 2, 3, 4, 5, 6, 7, 8]]
  [0, 1, 2, 4, 5, 6, 3, 7, 8, 9]

/-- A part of reeve/reevelaw3.NvmPlays. -/
def k14_8 : ACode :=
  .seq (.region [
    ⟨(some 155), .mv (.t 5), none⟩,
    ⟨(some 156), .fld 4 (.t 9), none⟩,
    ⟨(some 157), .ld none (.t 156), none⟩,
    ⟨(some 158), .call 52 [(.t 155), (.t 157)], none⟩])
  (.region [
    ⟨(some 159), .mv (.t 7), none⟩,
    ⟨(some 160), .fld 4 (.t 9), none⟩,
    ⟨(some 161), .ld none (.t 160), none⟩,
    ⟨(some 162), .call 65 [(.t 159), (.t 161)], none⟩])

/-- A part of reeve/reevelaw3.NvmPlays. -/
def k14_9 : ACode :=
  .seq (.region [
    ⟨(some 165), .mv (.t 5), none⟩,
    ⟨(some 166), .call 66 [(.t 165)], none⟩])
  (.region [
    ⟨(some 167), .mv (.t 7), none⟩,
    ⟨(some 168), .nck (.t 167), none⟩,
    ⟨(some 169), .fld 1 (.t 168), none⟩,
    ⟨none, .st 1 (.t 169) (.c (.bool false)), none⟩])

/-- A part of reeve/reevelaw3.NvmPlays. -/
def k14_10 : ACode :=
  .region [
    ⟨(some 71), .mv (.t 7), none⟩,
    ⟨(some 72), .fld 1 (.t 9), none⟩,
    ⟨(some 73), .ld none (.t 72), none⟩,
    ⟨(some 74), .fld 4 (.t 9), none⟩,
    ⟨(some 75), .ld none (.t 74), none⟩,
    ⟨(some 76), .call 68 [(.t 71), (.t 73), (.t 75)], none⟩]

/-- A part of reeve/reevelaw3.NvmPlays. -/
def k14_11 : ACode :=
  .seq (.region [
    ⟨(some 65), .mv (.t 5), none⟩,
    ⟨(some 66), .fld 1 (.t 9), none⟩,
    ⟨(some 67), .ld none (.t 66), none⟩,
    ⟨(some 68), .fld 4 (.t 9), none⟩,
    ⟨(some 69), .ld none (.t 68), none⟩,
    ⟨(some 70), .call 67 [(.t 65), (.t 67), (.t 69)], none⟩])
  k14_10

/-- A part of reeve/reevelaw3.NvmPlays. -/
def k14_12 : ACode :=
  .cond (.t 153)
    k14_8
    (.seq (.region [
      ⟨(some 164), .bin .eql (.t 64) (.c (.int .i64 6)), none⟩,
      ⟨(some 163), .mv (.t 164), none⟩])
    (.cond (.t 163)
      k14_9
      k14_11))

/-- A part of reeve/reevelaw3.NvmPlays. -/
def k14_13 : ACode :=
  .seq (.region [
    ⟨(some 143), .bin .eql (.t 64) (.c (.int .i64 4)), none⟩,
    ⟨(some 142), .mv (.t 143), none⟩])
  (.cond (.t 142)
    k14_7
    (.seq (.region [
      ⟨(some 154), .bin .eql (.t 64) (.c (.int .i64 5)), none⟩,
      ⟨(some 153), .mv (.t 154), none⟩])
    k14_12))

/-- A part of reeve/reevelaw3.NvmPlays. -/
def k14_14 : ACode :=
  .cond (.t 124)
    k14_5
    (.seq (.region [
      ⟨(some 136), .bin .eql (.t 64) (.c (.int .i64 3)), none⟩,
      ⟨(some 135), .mv (.t 136), none⟩])
    (.cond (.t 135)
      k14_6
      k14_13))

/-- A part of reeve/reevelaw3.NvmPlays. -/
def k14_15 : ACode :=
  .seq (.region [
    ⟨(some 93), .bin .eql (.t 64) (.c (.int .i64 1)), none⟩,
    ⟨(some 92), .mv (.t 93), none⟩])
  (.cond (.t 92)
    k14_4
    (.seq (.region [
      ⟨(some 125), .bin .eql (.t 64) (.c (.int .i64 2)), none⟩,
      ⟨(some 124), .mv (.t 125), none⟩])
    k14_14))

/-- A part of reeve/reevelaw3.NvmPlays. -/
def k14_16 : ACode :=
  .seq (.drawn [
    ⟨(some 184), .mv (.t 10), none⟩,
    ⟨(some 185), .un .not (.t 184), none⟩,
    ⟨(some 186), .mv (.t 185), none⟩,
    ⟨(some 187), .mv (.t 15), (some (186, false))⟩,
    ⟨(some 188), .mv (.t 17), (some (186, false))⟩,
    ⟨(some 189), .bin .neq (.t 187) (.t 188), (some (186, false))⟩,
    ⟨(some 190), .pick (.t 186) (.c (.bool true)) (.t 189), none⟩,
    ⟨(some 191), .mv (.t 190), none⟩,
    ⟨(some 192), .mv (.t 16), (some (191, false))⟩,
    ⟨(some 193), .mv (.t 18), (some (191, false))⟩,
    ⟨(some 194), .bin .neq (.t 192) (.t 193), (some (191, false))⟩,
    ⟨(some 195), .pick (.t 191) (.c (.bool true)) (.t 194), none⟩,
    ⟨(some 196), .mv (.t 195), none⟩,
    ⟨(some 197), .mv (.t 5), (some (196, false))⟩,
    ⟨(some 198), .call 51 [(.t 197)], (some (196, false))⟩,
    ⟨(some 199), .mv (.t 7), (some (196, false))⟩,
    ⟨(some 200), .call 70 [(.t 199)], (some (196, false))⟩,
    ⟨(some 201), .call 55 [(.t 198), (.t 200)], (some (196, false))⟩,
    ⟨(some 202), .un .not (.t 201), (some (196, false))⟩,
    ⟨(some 203), .pick (.t 196) (.c (.bool true)) (.t 202), none⟩,
    ⟨(some 204), .mv (.t 203), none⟩,
    ⟨(some 205), .mv (.t 5), (some (204, false))⟩,
    ⟨(some 206), .call 50 [(.t 205)], (some (204, false))⟩,
    ⟨(some 207), .mv (.t 7), (some (204, false))⟩,
    ⟨(some 208), .call 72 [(.t 207)], (some (204, false))⟩,
    ⟨(some 209), .call 71 [(.t 206), (.t 208)], (some (204, false))⟩,
    ⟨(some 210), .un .not (.t 209), (some (204, false))⟩,
    ⟨(some 211), .pick (.t 204) (.c (.bool true)) (.t 210), none⟩,
    ⟨(some 212), .mv (.t 211), none⟩,
    ⟨(some 213), .mv (.t 5), (some (212, false))⟩,
    ⟨(some 214), .call 56 [(.t 213)], (some (212, false))⟩,
    ⟨(some 215), .mv (.t 7), (some (212, false))⟩,
    ⟨(some 216), .nck (.t 215), (some (212, false))⟩,
    ⟨(some 217), .fld 2 (.t 216), (some (212, false))⟩,
    ⟨(some 218), .ld none (.t 217), (some (212, false))⟩,
    ⟨(some 219), .bin .neq (.t 214) (.t 218), (some (212, false))⟩,
    ⟨(some 220), .pick (.t 212) (.c (.bool true)) (.t 219), none⟩,
    ⟨(some 221), .mv (.t 220), none⟩,
    ⟨(some 222), .mv (.t 5), (some (221, false))⟩,
    ⟨(some 223), .call 57 [(.t 222)], (some (221, false))⟩,
    ⟨(some 224), .mv (.t 7), (some (221, false))⟩,
    ⟨(some 225), .nck (.t 224), (some (221, false))⟩,
    ⟨(some 226), .fld 1 (.t 225), (some (221, false))⟩,
    ⟨(some 227), .ld none (.t 226), (some (221, false))⟩,
    ⟨(some 228), .eqb true (.t 223) (.t 227), (some (221, false))⟩,
    ⟨(some 229), .pick (.t 221) (.c (.bool true)) (.t 228), none⟩,
    ⟨(some 230), .mv (.t 229), none⟩,
    ⟨(some 231), .mv (.t 5), (some (230, false))⟩,
    ⟨(some 232), .call 54 [(.t 231)], (some (230, false))⟩,
    ⟨(some 233), .mv (.t 0), (some (230, false))⟩,
    ⟨(some 234), .bin .neq (.t 232) (.t 233), (some (230, false))⟩,
    ⟨(some 235), .pick (.t 230) (.c (.bool true)) (.t 234), none⟩]
  [[], [0], [1], [2], [2], [3, 4, 2], [2, 5], [6, 2], [7], [7], [8, 9, 7], [7, 10], [11, 7], [12], [13, 12, 12], [12], [15, 14, 12], [14, 16, 16, 12], [17, 12], [12, 18], [19, 17], [20], [21, 20, 20], [20], [23, 22, 20], [22, 24, 24, 20], [25, 20], [20, 26], [27, 25], [28], [29, 28, 28], [28], [31, 28], [32, 28], [33, 28], [30, 34, 28], [28, 35], [36, 30], [37], [38, 37, 37], [37], [40, 37], [41, 37], [42, 37], [39, 43, 37], [37, 44], [45, 39], [46], [47, 46, 46], [46], [48, 49, 46], [46, 50]]
  [0, 1, 2, 3, 4, 5, 6, 7, 8, 9, 10, 11, 12, 13, 15, 14, 16, 17, 18, 19, 20, 21, 23, 22, 24, 25, 26, 27, 28, 29, 31, 32, 33, 34, 30, 35, 36, 37, 38, 40, 41, 42, 43, 39, 44, 45, 46, 47, 49, 48, 50, 51])
  (.cond (.t 235)
    (.seq (.region [
      ⟨(some 4), .mv (.c (.bool false)), none⟩])
    (.ret))
    (.skip))

/-- A part of reeve/reevelaw3.NvmPlays. -/
def k14_17 : ACode :=
  .seq (.region [
    ⟨(some 178), .mv (.t 7), none⟩,
    ⟨(some 179), .fld 1 (.t 9), none⟩,
    ⟨(some 180), .ld none (.t 179), none⟩,
    ⟨(some 181), .call 69 [(.t 178), (.t 180)], none⟩,
    ⟨(some 177), .mv (.t 181), none⟩,
    ⟨(some 182), .ext (.t 177) 0, none⟩,
    ⟨(some 183), .ext (.t 177) 1, none⟩,
    ⟨(some 17), .mv (.t 182), none⟩,
    ⟨(some 18), .mv (.t 183), none⟩])
  k14_16

/-- A part of reeve/reevelaw3.NvmPlays. -/
def k14_18 : ACode :=
  .seq (.region [
    ⟨(some 171), .mv (.t 5), none⟩,
    ⟨(some 172), .fld 1 (.t 9), none⟩,
    ⟨(some 173), .ld none (.t 172), none⟩,
    ⟨(some 174), .call 46 [(.t 171), (.t 173)], none⟩,
    ⟨(some 170), .mv (.t 174), none⟩,
    ⟨(some 175), .ext (.t 170) 0, none⟩,
    ⟨(some 176), .ext (.t 170) 1, none⟩,
    ⟨(some 15), .mv (.t 175), none⟩,
    ⟨(some 16), .mv (.t 176), none⟩])
  k14_17

/-- A part of reeve/reevelaw3.NvmPlays. -/
def k14_19 : ACode :=
  .seq (.seq (.region [
    ⟨(some 63), .fld 0 (.t 9), none⟩,
    ⟨(some 64), .ld none (.t 63), none⟩])
  (.block 2 (
    .seq (.region [
      ⟨(some 78), .bin .eql (.t 64) (.c (.int .i64 0)), none⟩,
      ⟨(some 77), .mv (.t 78), none⟩])
    (.cond (.t 77)
      k14_1
      k14_15))))
  k14_18

/-- A part of reeve/reevelaw3.NvmPlays. -/
def k14_20 : ACode :=
  .seq (.seq (.region [
    ⟨(some 59), .fld 4 (.t 9), none⟩,
    ⟨(some 60), .ld none (.t 59), none⟩,
    ⟨(some 61), .len false (.t 60), none⟩,
    ⟨(some 62), .bin .gtr (.t 61) (.c (.int .i64 40)), none⟩])
  (.cond (.t 62)
    (.seq (.region [
      ⟨(some 4), .mv (.c (.bool true)), none⟩])
    (.ret))
    (.skip)))
  (.seq (.region [
    ⟨(some 10), .mv (.c (.bool true)), none⟩])
  k14_19)

/-- A part of reeve/reevelaw3.NvmPlays. -/
def k14_21 : ACode :=
  .seq (.block 1 (
    .seq (.region [
      ⟨(some 55), .mv (.t 1), none⟩,
      ⟨(some 56), .mv (.t 8), none⟩,
      ⟨(some 57), .ixs 5 (.t 55) (.t 56), none⟩,
      ⟨(some 58), .ld (some 5) (.t 57), none⟩,
      ⟨(some 9), .new [.int .i64 0, .int .i64 0, .int .u64 0, .int .u64 0, .lit (.slice none 0 0)], none⟩,
      ⟨none, .st 5 (.t 9) (.t 58), none⟩])
    k14_20))
  (.region [
    ⟨(some 53), .mv (.t 8), none⟩,
    ⟨(some 54), .bin .add (.t 53) (.c (.int .i64 1)), none⟩,
    ⟨(some 8), .mv (.t 54), none⟩])

/-- A part of reeve/reevelaw3.NvmPlays. -/
def b14_22 : ACode :=
  .seq (.seq (.region [
    ⟨(some 49), .mv (.t 8), none⟩,
    ⟨(some 50), .mv (.t 1), none⟩,
    ⟨(some 51), .len false (.t 50), none⟩,
    ⟨(some 52), .bin .lss (.t 49) (.t 51), none⟩])
  (.cond (.t 52)
    (.skip)
    (.exit 0)))
  k14_21

/-- A part of reeve/reevelaw3.NvmPlays. -/
def k14_23 : ACode :=
  .seq (.seq (.region [
    ⟨(some 43), .mv (.t 6), none⟩,
    ⟨(some 44), .bin .neq (.t 43) (.c (.int .i64 0)), none⟩,
    ⟨(some 45), .mv (.t 44), none⟩,
    ⟨(some 46), .mv (.t 5), (some (45, false))⟩,
    ⟨(some 47), .isNil false 0 (.t 46), (some (45, false))⟩,
    ⟨(some 48), .pick (.t 45) (.c (.bool true)) (.t 47), none⟩])
  (.cond (.t 48)
    (.seq (.region [
      ⟨(some 4), .mv (.c (.bool false)), none⟩])
    (.ret))
    (.skip)))
  (.seq (.seq (.region [
    ⟨(some 8), .mv (.c (.int .i64 0)), none⟩])
  (.block 0 (
    .loop b14_22)))
  (.seq (.region [
    ⟨(some 4), .mv (.c (.bool true)), none⟩])
  (.ret)))

/-- A part of reeve/reevelaw3.NvmPlays. -/
def k14_24 : ACode :=
  .seq (.region [
    ⟨(some 33), .mv (.t 0), none⟩,
    ⟨(some 34), .call 58 [(.t 33)], none⟩,
    ⟨(some 7), .mv (.t 34), none⟩])
  (.seq (.seq (.region [
    ⟨(some 35), .mv (.t 7), none⟩,
    ⟨(some 36), .isNil false 0 (.t 35), none⟩])
  (.cond (.t 36)
    k14_0
    (.skip)))
  k14_23)

/-- A part of reeve/reevelaw3.NvmPlays. -/
def k14_25 : ACode :=
  .seq (.region [
    ⟨(some 29), .mv (.t 0), none⟩,
    ⟨(some 30), .call 44 [(.t 29)], none⟩,
    ⟨(some 28), .mv (.t 30), none⟩,
    ⟨(some 31), .ext (.t 28) 0, none⟩,
    ⟨(some 32), .ext (.t 28) 1, none⟩,
    ⟨(some 5), .mv (.t 31), none⟩,
    ⟨(some 6), .mv (.t 32), none⟩])
  k14_24

/-- A part of reeve/reevelaw3.NvmPlays. -/
def k14_26 : ACode :=
  .seq (.seq (.region [
    ⟨(some 21), .mv (.t 0), none⟩,
    ⟨(some 22), .bin .gtr (.t 21) (.c (.int .i64 20)), none⟩,
    ⟨(some 23), .mv (.t 22), none⟩,
    ⟨(some 24), .mv (.t 1), (some (23, false))⟩,
    ⟨(some 25), .len false (.t 24), (some (23, false))⟩,
    ⟨(some 26), .bin .gtr (.t 25) (.c (.int .i64 80)), (some (23, false))⟩,
    ⟨(some 27), .pick (.t 23) (.c (.bool true)) (.t 26), none⟩])
  (.cond (.t 27)
    (.seq (.region [
      ⟨(some 4), .mv (.c (.bool true)), none⟩])
    (.ret))
    (.skip)))
  k14_25

/-- reeve/reevelaw3.NvmPlays -/
def c14 : ACode :=
  .seq (.region [
    ⟨(some 4), .mv (.c (.bool false)), none⟩])
  (.seq (.seq (.region [
    ⟨(some 19), .call 43 [], none⟩,
    ⟨(some 20), .un .not (.t 19), none⟩])
  (.cond (.t 20)
    (.seq (.region [
      ⟨(some 4), .mv (.c (.bool false)), none⟩])
    (.ret))
    (.skip)))
  k14_26)
theorem ok14 : fnOk Try.prog 14 c14 236 [.t 4] = true := by kernel_rfl

/-- A part of reeve/reevelaw3.NvmKnown. -/
def k15_0 : ACode :=
  .seq (.region [
    ⟨(some 93), .mv (.t 2), none⟩,
    ⟨(some 94), .bin .eql (.t 93) (.c (.int .i64 1)), none⟩,
    ⟨(some 95), .mv (.t 94), none⟩,
    ⟨(some 96), .mv (.t 4), (some (95, true))⟩,
    ⟨(some 97), .bin .eql (.t 96) (.c (.int .i64 1)), (some (95, true))⟩,
    ⟨(some 98), .pick (.t 95) (.t 97) (.c (.bool false)), none⟩,
    ⟨(some 99), .mv (.t 98), none⟩,
    ⟨(some 100), .mv (.t 6), (some (99, true))⟩,
    ⟨(some 101), .bin .eql (.t 100) (.c (.int .i64 1)), (some (99, true))⟩,
    ⟨(some 102), .pick (.t 99) (.t 101) (.c (.bool false)), none⟩,
    ⟨(some 103), .mv (.t 102), none⟩,
    ⟨(some 104), .mv (.t 8), (some (103, true))⟩,
    ⟨(some 105), .bin .eql (.t 104) (.c (.int .i64 1)), (some (103, true))⟩,
    ⟨(some 106), .pick (.t 103) (.t 105) (.c (.bool false)), none⟩,
    ⟨(some 107), .mv (.t 106), none⟩,
    ⟨(some 108), .mv (.t 10), (some (107, true))⟩,
    ⟨(some 109), .bin .eql (.t 108) (.c (.int .i64 0)), (some (107, true))⟩,
    ⟨(some 110), .pick (.t 107) (.t 109) (.c (.bool false)), none⟩,
    ⟨(some 111), .mv (.t 110), none⟩,
    ⟨(some 112), .mv (.t 11), (some (111, true))⟩,
    ⟨(some 113), .un .not (.t 112), (some (111, true))⟩,
    ⟨(some 114), .pick (.t 111) (.t 113) (.c (.bool false)), none⟩,
    ⟨(some 115), .mv (.t 114), none⟩,
    ⟨(some 116), .mv (.t 12), (some (115, true))⟩,
    ⟨(some 117), .bin .eql (.t 116) (.c (.int .i64 0)), (some (115, true))⟩,
    ⟨(some 118), .pick (.t 115) (.t 117) (.c (.bool false)), none⟩,
    ⟨(some 119), .mv (.t 118), none⟩,
    ⟨(some 120), .mv (.t 13), (some (119, true))⟩,
    ⟨(some 121), .pick (.t 119) (.t 120) (.c (.bool false)), none⟩,
    ⟨(some 122), .mv (.t 121), none⟩,
    ⟨(some 123), .mv (.t 14), (some (122, true))⟩,
    ⟨(some 124), .bin .eql (.t 123) (.c (.int .i64 0)), (some (122, true))⟩,
    ⟨(some 125), .pick (.t 122) (.t 124) (.c (.bool false)), none⟩,
    ⟨(some 126), .mv (.t 125), none⟩,
    ⟨(some 127), .mv (.t 15), (some (126, true))⟩,
    ⟨(some 128), .bin .eql (.t 127) (.c (.int .i64 1)), (some (126, true))⟩,
    ⟨(some 129), .pick (.t 126) (.t 128) (.c (.bool false)), none⟩,
    ⟨(some 130), .mv (.t 129), none⟩,
    ⟨(some 131), .mv (.t 16), (some (130, true))⟩,
    ⟨(some 132), .bin .eql (.t 131) (.c (.int .i64 1)), (some (130, true))⟩,
    ⟨(some 133), .pick (.t 130) (.t 132) (.c (.bool false)), none⟩,
    ⟨(some 134), .mv (.t 133), none⟩,
    ⟨(some 135), .mv (.t 17), (some (134, true))⟩,
    ⟨(some 136), .bsl 1 1 [.int .i64 0] [(0, (.c (.int .i64 0)))], (some (134, true))⟩,
    ⟨(some 137), .call 71 [(.t 135), (.t 136)], (some (134, true))⟩,
    ⟨(some 138), .pick (.t 134) (.t 137) (.c (.bool false)), none⟩,
    ⟨(some 139), .mv (.t 138), none⟩,
    ⟨(some 140), .mv (.t 18), (some (139, true))⟩,
    ⟨(some 141), .bin .eql (.t 140) (.c (.int .i64 0)), (some (139, true))⟩,
    ⟨(some 142), .pick (.t 139) (.t 141) (.c (.bool false)), none⟩,
    ⟨(some 143), .mv (.t 142), none⟩,
    ⟨(some 144), .mv (.t 19), (some (143, true))⟩,
    ⟨(some 145), .bin .eql (.t 144) (.c (.int .i64 12)), (some (143, true))⟩,
    ⟨(some 146), .pick (.t 143) (.t 145) (.c (.bool false)), none⟩,
    ⟨(some 147), .mv (.t 146), none⟩,
    ⟨(some 148), .mv (.t 20), (some (147, true))⟩,
    ⟨(some 149), .pick (.t 147) (.t 148) (.c (.bool false)), none⟩,
    ⟨(some 150), .mv (.t 149), none⟩,
    ⟨(some 151), .mv (.t 21), (some (150, true))⟩,
    ⟨(some 152), .bsl 1 8 [.int .u64 0] [(0, (.c (.int .u64 1))), (1, (.c (.int .u64 2))), (2, (.c (.int .u64 3))), (3, (.c (.int .u64 4))), (4, (.c (.int .u64 5))), (5, (.c (.int .u64 6))), (6, (.c (.int .u64 7))), (7, (.c (.int .u64 8)))], (some (150, true))⟩,
    ⟨(some 153), .call 55 [(.t 151), (.t 152)], (some (150, true))⟩,
    ⟨(some 154), .pick (.t 150) (.t 153) (.c (.bool false)), none⟩,
    ⟨(some 155), .mv (.t 154), none⟩,
    ⟨(some 156), .mv (.t 22), (some (155, true))⟩,
    ⟨(some 157), .bin .eql (.t 156) (.c (.int .i64 12)), (some (155, true))⟩,
    ⟨(some 158), .pick (.t 155) (.t 157) (.c (.bool false)), none⟩,
    ⟨(some 159), .mv (.t 158), none⟩,
    ⟨(some 160), .mv (.t 23), (some (159, true))⟩,
    ⟨(some 161), .bin .eql (.t 160) (.c (.int .u64 4)), (some (159, true))⟩,
    ⟨(some 162), .pick (.t 159) (.t 161) (.c (.bool false)), none⟩,
    ⟨(some 163), .mv (.t 162), none⟩,
    ⟨(some 164), .mv (.t 9), (some (163, true))⟩,
    ⟨(some 165), .call 54 [(.t 164)], (some (163, true))⟩,
    ⟨(some 166), .bin .eql (.t 165) (.c (.int .i64 1)), (some (163, true))⟩,
    ⟨(some 167), .pick (.t 163) (.t 166) (.c (.bool false)), none⟩,
    ⟨(some 168), .mv (.t 167), none⟩,
    ⟨(some 169), .mv (.t 9), (some (168, true))⟩,
    ⟨(some 170), .call 56 [(.t 169)], (some (168, true))⟩,
    ⟨(some 171), .bin .eql (.t 170) (.c (.int .i64 3)), (some (168, true))⟩,
    ⟨(some 172), .pick (.t 168) (.t 171) (.c (.bool false)), none⟩,
    ⟨(some 0), .mv (.t 172), none⟩])
  (.ret)

/-- A part of reeve/reevelaw3.NvmKnown. -/
def k15_1 : ACode :=
  .seq (.region [
    ⟨(some 89), .mv (.t 9), none⟩,
    ⟨(some 90), .call 46 [(.t 89), (.c (.int .i64 0))], none⟩,
    ⟨(some 88), .mv (.t 90), none⟩,
    ⟨(some 91), .ext (.t 88) 0, none⟩,
    ⟨(some 92), .ext (.t 88) 1, none⟩,
    ⟨(some 23), .mv (.t 91), none⟩,
    ⟨(some 24), .mv (.t 92), none⟩])
  k15_0

/-- A part of reeve/reevelaw3.NvmKnown. -/
def k15_2 : ACode :=
  .seq (.region [
    ⟨(some 83), .mv (.t 9), none⟩,
    ⟨(some 84), .bsl 1 1 [.int .i64 0] [(0, (.c (.int .i64 0)))], none⟩,
    ⟨(some 85), .call 52 [(.t 83), (.t 84)], none⟩])
  (.seq (.region [
    ⟨(some 86), .mv (.t 9), none⟩,
    ⟨(some 87), .call 66 [(.t 86)], none⟩])
  k15_1)

/-- A part of reeve/reevelaw3.NvmKnown. -/
def k15_3 : ACode :=
  .seq (.region [
    ⟨(some 77), .mv (.t 9), none⟩,
    ⟨(some 78), .call 47 [(.t 77), (.c (.int .i64 0)), (.c (.int .u64 1))], none⟩,
    ⟨(some 22), .mv (.t 78), none⟩])
  (.seq (.region [
    ⟨(some 79), .mv (.t 9), none⟩,
    ⟨(some 80), .call 66 [(.t 79)], none⟩])
  (.seq (.region [
    ⟨(some 81), .mv (.t 9), none⟩,
    ⟨(some 82), .call 47 [(.t 81), (.c (.int .i64 0)), (.c (.int .u64 4))], none⟩])
  k15_2))

/-- A part of reeve/reevelaw3.NvmKnown. -/
def k15_4 : ACode :=
  .seq (.region [
    ⟨(some 73), .mv (.t 9), none⟩,
    ⟨(some 74), .call 57 [(.t 73)], none⟩,
    ⟨(some 20), .mv (.t 74), none⟩])
  (.seq (.region [
    ⟨(some 75), .mv (.t 9), none⟩,
    ⟨(some 76), .call 51 [(.t 75)], none⟩,
    ⟨(some 21), .mv (.t 76), none⟩])
  k15_3)

/-- A part of reeve/reevelaw3.NvmKnown. -/
def k15_5 : ACode :=
  .seq (.region [
    ⟨(some 69), .mv (.t 9), none⟩,
    ⟨(some 70), .call 47 [(.t 69), (.c (.int .i64 0)), (.c (.int .u64 7))], none⟩,
    ⟨(some 71), .mv (.t 9), none⟩,
    ⟨(some 72), .call 47 [(.t 71), (.c (.int .i64 1)), (.c (.int .u64 7))], none⟩,
    ⟨(some 18), .mv (.t 70), none⟩,
    ⟨(some 19), .mv (.t 72), none⟩])
  k15_4

/-- A part of reeve/reevelaw3.NvmKnown. -/
def k15_6 : ACode :=
  .seq (.region [
    ⟨(some 65), .mv (.t 9), none⟩,
    ⟨(some 66), .call 50 [(.t 65)], none⟩,
    ⟨(some 17), .mv (.t 66), none⟩])
  (.seq (.region [
    ⟨(some 67), .mv (.t 9), none⟩,
    ⟨(some 68), .call 67 [(.t 67), (.c (.int .i64 2)), (.c (.lit (.slice none 0 0)))], none⟩])
  k15_5)

/-- A part of reeve/reevelaw3.NvmKnown. -/
def k15_7 : ACode :=
  .seq (.region [
    ⟨(some 61), .mv (.t 9), none⟩,
    ⟨(some 62), .call 47 [(.t 61), (.c (.int .i64 8)), (.c (.int .u64 1))], none⟩,
    ⟨(some 63), .mv (.t 9), none⟩,
    ⟨(some 64), .call 48 [(.t 63), (.c (.int .i64 1))], none⟩,
    ⟨(some 15), .mv (.t 62), none⟩,
    ⟨(some 16), .mv (.t 64), none⟩])
  k15_6

/-- A part of reeve/reevelaw3.NvmKnown. -/
def k15_8 : ACode :=
  .seq (.region [
    ⟨(some 57), .mv (.t 9), none⟩,
    ⟨(some 58), .call 45 [(.t 57), (.c (.int .i64 2)), (.c (.int .u64 3)), (.c (.int .u64 9))], none⟩,
    ⟨(some 56), .mv (.t 58), none⟩,
    ⟨(some 59), .ext (.t 56) 0, none⟩,
    ⟨(some 60), .ext (.t 56) 1, none⟩,
    ⟨(some 13), .mv (.t 59), none⟩,
    ⟨(some 14), .mv (.t 60), none⟩])
  k15_7

/-- A part of reeve/reevelaw3.NvmKnown. -/
def k15_9 : ACode :=
  .seq (.region [
    ⟨(some 52), .mv (.t 9), none⟩,
    ⟨(some 53), .call 45 [(.t 52), (.c (.int .i64 2)), (.c (.int .u64 4)), (.c (.int .u64 9))], none⟩,
    ⟨(some 51), .mv (.t 53), none⟩,
    ⟨(some 54), .ext (.t 51) 0, none⟩,
    ⟨(some 55), .ext (.t 51) 1, none⟩,
    ⟨(some 11), .mv (.t 54), none⟩,
    ⟨(some 12), .mv (.t 55), none⟩])
  k15_8

/-- A part of reeve/reevelaw3.NvmKnown. -/
def k15_10 : ACode :=
  .seq (.region [
    ⟨(some 45), .bsl 1 8 [.int .u64 0] [(0, (.c (.int .u64 1))), (1, (.c (.int .u64 2))), (2, (.c (.int .u64 3))), (3, (.c (.int .u64 4))), (4, (.c (.int .u64 5))), (5, (.c (.int .u64 6))), (6, (.c (.int .u64 7))), (7, (.c (.int .u64 8)))], none⟩,
    ⟨(some 46), .call 53 [(.t 45)], none⟩,
    ⟨(some 44), .mv (.t 46), none⟩,
    ⟨(some 47), .ext (.t 44) 0, none⟩,
    ⟨(some 48), .ext (.t 44) 1, none⟩,
    ⟨(some 9), .mv (.t 47), none⟩,
    ⟨(some 10), .mv (.t 48), none⟩])
  (.seq (.seq (.region [
    ⟨(some 49), .mv (.t 9), none⟩,
    ⟨(some 50), .isNil false 0 (.t 49), none⟩])
  (.cond (.t 50)
    (.seq (.region [
      ⟨(some 0), .mv (.c (.bool false)), none⟩])
    (.ret))
    (.skip)))
  k15_9)

/-- A part of reeve/reevelaw3.NvmKnown. -/
def k15_11 : ACode :=
  .seq (.region [
    ⟨(some 41), .call 53 [(.c (.lit (.slice none 0 0)))], none⟩,
    ⟨(some 40), .mv (.t 41), none⟩,
    ⟨(some 42), .ext (.t 40) 0, none⟩,
    ⟨(some 43), .ext (.t 40) 1, none⟩,
    ⟨(some 7), .mv (.t 42), none⟩,
    ⟨(some 8), .mv (.t 43), none⟩])
  k15_10

/-- A part of reeve/reevelaw3.NvmKnown. -/
def k15_12 : ACode :=
  .seq (.region [
    ⟨(some 36), .bsl 1 3 [.int .u64 0] [(0, (.c (.int .u64 1))), (1, (.c (.int .u64 2))), (2, (.c (.int .u64 3)))], none⟩,
    ⟨(some 37), .call 53 [(.t 36)], none⟩,
    ⟨(some 35), .mv (.t 37), none⟩,
    ⟨(some 38), .ext (.t 35) 0, none⟩,
    ⟨(some 39), .ext (.t 35) 1, none⟩,
    ⟨(some 5), .mv (.t 38), none⟩,
    ⟨(some 6), .mv (.t 39), none⟩])
  k15_11

/-- A part of reeve/reevelaw3.NvmKnown. -/
def k15_13 : ACode :=
  .seq (.region [
    ⟨(some 32), .call 44 [(.c (.int .i64 4097))], none⟩,
    ⟨(some 31), .mv (.t 32), none⟩,
    ⟨(some 33), .ext (.t 31) 0, none⟩,
    ⟨(some 34), .ext (.t 31) 1, none⟩,
    ⟨(some 3), .mv (.t 33), none⟩,
    ⟨(some 4), .mv (.t 34), none⟩])
  k15_12

/-- A part of reeve/reevelaw3.NvmKnown. -/
def k15_14 : ACode :=
  .seq (.region [
    ⟨(some 28), .call 44 [(.c (.int .i64 0))], none⟩,
    ⟨(some 27), .mv (.t 28), none⟩,
    ⟨(some 29), .ext (.t 27) 0, none⟩,
    ⟨(some 30), .ext (.t 27) 1, none⟩,
    ⟨(some 1), .mv (.t 29), none⟩,
    ⟨(some 2), .mv (.t 30), none⟩])
  k15_13

/-- reeve/reevelaw3.NvmKnown -/
def c15 : ACode :=
  .seq (.region [
    ⟨(some 0), .mv (.c (.bool false)), none⟩])
  (.seq (.seq (.region [
    ⟨(some 25), .call 43 [], none⟩,
    ⟨(some 26), .un .not (.t 25), none⟩])
  (.cond (.t 26)
    (.seq (.region [
      ⟨(some 0), .mv (.c (.bool false)), none⟩])
    (.ret))
    (.skip)))
  k15_14)
theorem ok15 : fnOk Try.prog 15 c15 173 [.t 0] = true := by kernel_rfl

/-- A part of reeve/reevelaw7.awake. -/
def k16_0 : ACode :=
  .seq (.region [
    ⟨(some 1), .call 18 [(.c (.int .i64 5))], none⟩,
    ⟨(some 2), .sbin .eql (.t 1) (.c (.str [114, 103])), none⟩,
    ⟨(some 3), .mv (.t 2), none⟩,
    ⟨(some 4), .call 17 [(.c (.int .i64 7))], (some (3, true))⟩,
    ⟨(some 5), .pick (.t 3) (.t 4) (.c (.bool false)), none⟩,
    ⟨(some 6), .mv (.t 5), none⟩,
    ⟨(some 7), .call 36 [], (some (6, true))⟩,
    ⟨(some 8), .len false (.t 7), (some (6, true))⟩,
    ⟨(some 9), .bin .eql (.t 8) (.c (.int .i64 8)), (some (6, true))⟩,
    ⟨(some 10), .pick (.t 6) (.t 9) (.c (.bool false)), none⟩,
    ⟨(some 0), .mv (.t 10), none⟩])
  (.ret)

/-- reeve/reevelaw7.awake -/
def c16 : ACode :=
  .seq (.region [
    ⟨(some 0), .mv (.c (.bool false)), none⟩])
  k16_0
theorem ok16 : fnOk Try.prog 16 c16 11 [.t 0] = true := by kernel_rfl

/-- A part of reeve/right.Good. -/
def k17_0 : ACode :=
  .seq (.region [
    ⟨(some 3), .mv (.t 0), none⟩,
    ⟨(some 4), .bin .geq (.t 3) (.c (.int .i64 0)), none⟩,
    ⟨(some 5), .mv (.t 4), none⟩,
    ⟨(some 6), .mv (.t 0), (some (5, true))⟩,
    ⟨(some 7), .bin .leq (.t 6) (.c (.int .i64 7)), (some (5, true))⟩,
    ⟨(some 8), .pick (.t 5) (.t 7) (.c (.bool false)), none⟩,
    ⟨(some 2), .mv (.t 8), none⟩])
  (.ret)

/-- reeve/right.Good -/
def c17 : ACode :=
  .seq (.region [
    ⟨(some 2), .mv (.c (.bool false)), none⟩])
  k17_0
theorem ok17 : fnOk Try.prog 17 c17 9 [.t 2] = true := by kernel_rfl

/-- A part of reeve/right.Text. -/
def k18_0 : ACode :=
  .cond (.t 16)
    (.region [
      ⟨(some 17), .mv (.t 3), none⟩,
      ⟨(some 18), .mv (.t 5), none⟩,
      ⟨(some 19), .i2s (.t 18), none⟩,
      ⟨(some 20), .sbin .add (.t 17) (.t 19), none⟩,
      ⟨(some 3), .mv (.t 20), none⟩])
    (.skip)

/-- A part of reeve/right.Text. -/
def k18_1 : ACode :=
  .seq (.region [
    ⟨(some 11), .mv (.t 0), none⟩,
    ⟨(some 12), .call 73 [(.t 11)], none⟩,
    ⟨(some 13), .mv (.t 4), none⟩,
    ⟨(some 14), .bin .shr (.t 12) (.t 13), none⟩,
    ⟨(some 15), .bin .and (.t 14) (.c (.int .i64 1)), none⟩,
    ⟨(some 16), .bin .eql (.t 15) (.c (.int .i64 1)), none⟩])
  k18_0

/-- A part of reeve/right.Text. -/
def b18_2 : ACode :=
  .seq (.region [
    ⟨(some 7), .nxt (.t 6), none⟩,
    ⟨(some 8), .ext (.t 7) 0, none⟩])
  (.seq (.cond (.t 8)
    (.skip)
    (.exit 0))
  (.block 1 (
    .seq (.region [
      ⟨(some 9), .ext (.t 7) 1, none⟩,
      ⟨(some 10), .ext (.t 7) 2, none⟩,
      ⟨(some 4), .mv (.t 9), none⟩,
      ⟨(some 5), .mv (.t 10), none⟩])
    k18_1)))

/-- A part of reeve/right.Text. -/
def k18_3 : ACode :=
  .seq (.seq (.region [
    ⟨(some 21), .mv (.t 3), none⟩,
    ⟨(some 22), .sbin .eql (.t 21) (.c (.str [])), none⟩])
  (.cond (.t 22)
    (.seq (.region [
      ⟨(some 2), .mv (.c (.str [45])), none⟩])
    (.ret))
    (.skip)))
  (.seq (.region [
    ⟨(some 23), .mv (.t 3), none⟩,
    ⟨(some 2), .mv (.t 23), none⟩])
  (.ret))

/-- reeve/right.Text -/
def c18 : ACode :=
  .seq (.region [
    ⟨(some 2), .mv (.c (.str [])), none⟩])
  (.seq (.region [
    ⟨(some 3), .mv (.c (.str [])), none⟩])
  (.seq (.seq (.region [
    ⟨(some 6), .rng (.c (.str [114, 119, 103])), none⟩])
  (.block 0 (
    .loop b18_2)))
  k18_3))
theorem ok18 : fnOk Try.prog 18 c18 24 [.t 2] = true := by kernel_rfl

/-- A part of reeve/right.Less. -/
def k19_0 : ACode :=
  .seq (.region [
    ⟨(some 5), .mv (.t 0), none⟩,
    ⟨(some 6), .call 73 [(.t 5)], none⟩,
    ⟨(some 7), .mv (.t 1), none⟩,
    ⟨(some 8), .call 73 [(.t 7)], none⟩,
    ⟨(some 9), .bin .andNot (.t 6) (.t 8), none⟩,
    ⟨(some 4), .mv (.t 9), none⟩])
  (.ret)

/-- reeve/right.Less -/
def c19 : ACode :=
  .seq (.region [
    ⟨(some 4), .mv (.c (.int .i64 0)), none⟩])
  k19_0
theorem ok19 : fnOk Try.prog 19 c19 10 [.t 4] = true := by kernel_rfl

/-- A part of reeve/right.Both. -/
def k20_0 : ACode :=
  .seq (.region [
    ⟨(some 5), .mv (.t 0), none⟩,
    ⟨(some 6), .call 73 [(.t 5)], none⟩,
    ⟨(some 7), .mv (.t 1), none⟩,
    ⟨(some 8), .call 73 [(.t 7)], none⟩,
    ⟨(some 9), .bin .and (.t 6) (.t 8), none⟩,
    ⟨(some 4), .mv (.t 9), none⟩])
  (.ret)

/-- reeve/right.Both -/
def c20 : ACode :=
  .seq (.region [
    ⟨(some 4), .mv (.c (.int .i64 0)), none⟩])
  k20_0
theorem ok20 : fnOk Try.prog 20 c20 10 [.t 4] = true := by kernel_rfl

/-- A part of reeve/reevelaw2.awake. -/
def k21_0 : ACode :=
  .seq (.region [
    ⟨(some 13), .mv (.t 2), none⟩,
    ⟨(some 14), .mv (.t 13), none⟩,
    ⟨(some 15), .mv (.t 3), (some (14, true))⟩,
    ⟨(some 16), .bin .eql (.t 15) (.c (.int .u64 7)), (some (14, true))⟩,
    ⟨(some 17), .pick (.t 14) (.t 16) (.c (.bool false)), none⟩,
    ⟨(some 18), .mv (.t 17), none⟩,
    ⟨(some 19), .mv (.t 4), (some (18, true))⟩,
    ⟨(some 20), .pick (.t 18) (.t 19) (.c (.bool false)), none⟩,
    ⟨(some 21), .mv (.t 20), none⟩,
    ⟨(some 22), .mv (.t 1), (some (21, true))⟩,
    ⟨(some 23), .call 27 [(.t 22), (.c (.int .i64 3))], (some (21, true))⟩,
    ⟨(some 24), .bin .eql (.t 23) (.c (.int .u64 0)), (some (21, true))⟩,
    ⟨(some 25), .pick (.t 21) (.t 24) (.c (.bool false)), none⟩,
    ⟨(some 26), .mv (.t 25), none⟩,
    ⟨(some 27), .mv (.t 1), (some (26, true))⟩,
    ⟨(some 28), .nck (.t 27), (some (26, true))⟩,
    ⟨(some 29), .ld (some 18) (.t 28), (some (26, true))⟩,
    ⟨(some 30), .build [.int .u64 0, .int .u64 0, .int .u64 0, .int .u64 0, .int .u64 0, .int .u64 0, .int .u64 0, .int .u64 0, .int .u64 0, .int .u64 0, .int .u64 0, .int .u64 0, .int .u64 0, .int .u64 0, .int .u64 0, .int .u64 0, .bool false, .bool false] [], (some (26, true))⟩,
    ⟨(some 31), .eqs false [0, 0, 0, 0, 0, 0, 0, 0, 0, 0, 0, 0, 0, 0, 0, 0, 1, 1] (.t 29) (.t 30), (some (26, true))⟩,
    ⟨(some 32), .pick (.t 26) (.t 31) (.c (.bool false)), none⟩,
    ⟨(some 0), .mv (.t 32), none⟩])
  (.ret)

/-- A part of reeve/reevelaw2.awake. -/
def k21_1 : ACode :=
  .seq (.region [
    ⟨(some 9), .mv (.t 1), none⟩,
    ⟨(some 10), .call 27 [(.t 9), (.c (.int .i64 3))], none⟩,
    ⟨(some 3), .mv (.t 10), none⟩])
  (.seq (.region [
    ⟨(some 11), .mv (.t 1), none⟩,
    ⟨(some 12), .call 25 [(.t 11), (.c (.bool false))], none⟩,
    ⟨(some 4), .mv (.t 12), none⟩])
  k21_0)

/-- A part of reeve/reevelaw2.awake. -/
def k21_2 : ACode :=
  .seq (.region [
    ⟨(some 5), .build [.int .u64 0, .int .u64 0, .int .u64 0, .int .u64 0, .int .u64 0, .int .u64 0, .int .u64 0, .int .u64 0, .int .u64 0, .int .u64 0, .int .u64 0, .int .u64 0, .int .u64 0, .int .u64 0, .int .u64 0, .int .u64 0, .bool false, .bool false] [], none⟩,
    ⟨(some 6), .box (.t 5), none⟩,
    ⟨(some 1), .mv (.t 6), none⟩])
  (.seq (.region [
    ⟨(some 7), .mv (.t 1), none⟩,
    ⟨(some 8), .call 22 [(.t 7), (.c (.int .i64 3)), (.c (.int .u64 7))], none⟩,
    ⟨(some 2), .mv (.t 8), none⟩])
  k21_1)

/-- reeve/reevelaw2.awake -/
def c21 : ACode :=
  .seq (.region [
    ⟨(some 0), .mv (.c (.bool false)), none⟩])
  k21_2
theorem ok21 : fnOk Try.prog 21 c21 33 [.t 0] = true := by kernel_rfl

/-- A part of (*reeve/row.Row).Store. -/
def k22_0 : ACode :=
  .seq (.region [
    ⟨(some 16), .mv (.t 0), none⟩,
    ⟨(some 17), .mv (.t 0), none⟩,
    ⟨(some 18), .nck (.t 16), none⟩,
    ⟨(some 19), .fld 16 (.t 18), none⟩,
    ⟨none, .st 1 (.t 19) (.c (.bool true)), none⟩,
    ⟨(some 20), .nck (.t 17), none⟩,
    ⟨(some 21), .fld 17 (.t 20), none⟩,
    ⟨none, .st 1 (.t 21) (.c (.bool false)), none⟩])
  (.seq (.region [
    ⟨(some 6), .mv (.c (.bool true)), none⟩])
  (.ret))

/-- A part of (*reeve/row.Row).Store. -/
def k22_1 : ACode :=
  .seq (.region [
    ⟨(some 10), .mv (.t 0), none⟩,
    ⟨(some 11), .mv (.t 1), none⟩,
    ⟨(some 12), .mv (.t 2), none⟩,
    ⟨(some 13), .nck (.t 10), none⟩,
    ⟨(some 14), .fld 8 (.t 13), none⟩,
    ⟨(some 15), .ixa 8 1 (.t 14) (.t 11), none⟩,
    ⟨none, .st 1 (.t 15) (.t 12), none⟩])
  k22_0

/-- A part of (*reeve/row.Row).Store. -/
def k22_2 : ACode :=
  .seq (.seq (.region [
    ⟨(some 7), .mv (.t 1), none⟩,
    ⟨(some 8), .call 74 [(.t 7)], none⟩,
    ⟨(some 9), .un .not (.t 8), none⟩])
  (.cond (.t 9)
    (.seq (.region [
      ⟨(some 6), .mv (.c (.bool false)), none⟩])
    (.ret))
    (.skip)))
  k22_1

/-- (*reeve/row.Row).Store -/
def c22 : ACode :=
  .seq (.region [
    ⟨(some 6), .mv (.c (.bool false)), none⟩])
  k22_2
theorem ok22 : fnOk Try.prog 22 c22 22 [.t 6] = true := by kernel_rfl

/-- A part of (*reeve/row.Row).Fence. -/
def k23_0 : ACode :=
  .seq (.region [
    ⟨(some 3), .mv (.t 0), none⟩,
    ⟨(some 4), .nck (.t 3), none⟩,
    ⟨(some 5), .fld 17 (.t 4), none⟩,
    ⟨(some 6), .ld none (.t 5), none⟩,
    ⟨(some 7), .mv (.t 6), none⟩,
    ⟨(some 8), .mv (.t 0), (some (7, true))⟩,
    ⟨(some 9), .call 26 [(.t 8)], (some (7, true))⟩,
    ⟨(some 10), .pick (.t 7) (.t 9) (.c (.bool false)), none⟩,
    ⟨(some 2), .mv (.t 10), none⟩])
  (.ret)

/-- (*reeve/row.Row).Fence -/
def c23 : ACode :=
  .seq (.region [
    ⟨(some 2), .mv (.c (.bool false)), none⟩])
  k23_0
theorem ok23 : fnOk Try.prog 23 c23 11 [.t 2] = true := by kernel_rfl

/-- (*reeve/row.Row).Flush -/
def c24 : ACode :=
  .region [
    ⟨(some 2), .mv (.t 0), none⟩,
    ⟨(some 3), .mv (.t 0), none⟩,
    ⟨(some 4), .nck (.t 3), none⟩,
    ⟨(some 5), .fld 17 (.t 4), none⟩,
    ⟨(some 6), .ld none (.t 5), none⟩,
    ⟨(some 7), .mv (.t 6), none⟩,
    ⟨(some 8), .mv (.t 0), (some (7, false))⟩,
    ⟨(some 9), .nck (.t 8), (some (7, false))⟩,
    ⟨(some 10), .fld 16 (.t 9), (some (7, false))⟩,
    ⟨(some 11), .ld none (.t 10), (some (7, false))⟩,
    ⟨(some 12), .pick (.t 7) (.c (.bool true)) (.t 11), none⟩,
    ⟨(some 13), .nck (.t 2), none⟩,
    ⟨(some 14), .fld 17 (.t 13), none⟩,
    ⟨none, .st 1 (.t 14) (.t 12), none⟩]
theorem ok24 : fnOk Try.prog 24 c24 15 [] = true := by kernel_rfl

/-- A part of (*reeve/row.Row).Fall. -/
def k25_0 : ACode :=
  .seq (.region [
    ⟨(some 22), .mv (.t 0), none⟩,
    ⟨(some 23), .mv (.t 0), none⟩,
    ⟨(some 24), .nck (.t 22), none⟩,
    ⟨(some 25), .fld 16 (.t 24), none⟩,
    ⟨none, .st 1 (.t 25) (.c (.bool false)), none⟩,
    ⟨(some 26), .nck (.t 23), none⟩,
    ⟨(some 27), .fld 17 (.t 26), none⟩,
    ⟨none, .st 1 (.t 27) (.c (.bool false)), none⟩])
  (.seq (.region [
    ⟨(some 4), .mv (.c (.bool true)), none⟩])
  (.ret))

/-- A part of (*reeve/row.Row).Fall. -/
def k25_1 : ACode :=
  .seq (.region [
    ⟨(some 15), .mv (.t 0), none⟩,
    ⟨(some 16), .mv (.t 0), none⟩,
    ⟨(some 17), .nck (.t 16), none⟩,
    ⟨(some 18), .fld 0 (.t 17), none⟩,
    ⟨(some 19), .ld (some 8) (.t 18), none⟩,
    ⟨(some 20), .nck (.t 15), none⟩,
    ⟨(some 21), .fld 8 (.t 20), none⟩,
    ⟨none, .st 8 (.t 21) (.t 19), none⟩])
  k25_0

/-- A part of (*reeve/row.Row).Fall. -/
def k25_2 : ACode :=
  .seq (.seq (.region [
    ⟨(some 5), .mv (.t 1), none⟩,
    ⟨(some 6), .mv (.t 5), none⟩,
    ⟨(some 7), .mv (.t 0), (some (6, false))⟩,
    ⟨(some 8), .nck (.t 7), (some (6, false))⟩,
    ⟨(some 9), .fld 16 (.t 8), (some (6, false))⟩,
    ⟨(some 10), .ld none (.t 9), (some (6, false))⟩,
    ⟨(some 11), .un .not (.t 10), (some (6, false))⟩,
    ⟨(some 12), .pick (.t 6) (.c (.bool true)) (.t 11), none⟩])
  (.cond (.t 12)
    (.seq (.region [
      ⟨(some 13), .mv (.t 0), none⟩,
      ⟨(some 14), .call 26 [(.t 13)], none⟩,
      ⟨(some 4), .mv (.t 14), none⟩])
    (.ret))
    (.skip)))
  k25_1

/-- (*reeve/row.Row).Fall -/
def c25 : ACode :=
  .seq (.region [
    ⟨(some 4), .mv (.c (.bool false)), none⟩])
  k25_2
theorem ok25 : fnOk Try.prog 25 c25 28 [.t 4] = true := by kernel_rfl

/-- A part of (*reeve/row.Row).Evict. -/
def k26_0 : ACode :=
  .seq (.region [
    ⟨(some 15), .mv (.t 0), none⟩,
    ⟨(some 16), .mv (.t 0), none⟩,
    ⟨(some 17), .nck (.t 15), none⟩,
    ⟨(some 18), .fld 16 (.t 17), none⟩,
    ⟨none, .st 1 (.t 18) (.c (.bool false)), none⟩,
    ⟨(some 19), .nck (.t 16), none⟩,
    ⟨(some 20), .fld 17 (.t 19), none⟩,
    ⟨none, .st 1 (.t 20) (.c (.bool false)), none⟩])
  (.seq (.region [
    ⟨(some 2), .mv (.c (.bool true)), none⟩])
  (.ret))

/-- A part of (*reeve/row.Row).Evict. -/
def k26_1 : ACode :=
  .seq (.region [
    ⟨(some 8), .mv (.t 0), none⟩,
    ⟨(some 9), .mv (.t 0), none⟩,
    ⟨(some 10), .nck (.t 9), none⟩,
    ⟨(some 11), .fld 8 (.t 10), none⟩,
    ⟨(some 12), .ld (some 8) (.t 11), none⟩,
    ⟨(some 13), .nck (.t 8), none⟩,
    ⟨(some 14), .fld 0 (.t 13), none⟩,
    ⟨none, .st 8 (.t 14) (.t 12), none⟩])
  k26_0

/-- A part of (*reeve/row.Row).Evict. -/
def k26_2 : ACode :=
  .seq (.seq (.region [
    ⟨(some 3), .mv (.t 0), none⟩,
    ⟨(some 4), .nck (.t 3), none⟩,
    ⟨(some 5), .fld 16 (.t 4), none⟩,
    ⟨(some 6), .ld none (.t 5), none⟩,
    ⟨(some 7), .un .not (.t 6), none⟩])
  (.cond (.t 7)
    (.seq (.region [
      ⟨(some 2), .mv (.c (.bool false)), none⟩])
    (.ret))
    (.skip)))
  k26_1

/-- (*reeve/row.Row).Evict -/
def c26 : ACode :=
  .seq (.region [
    ⟨(some 2), .mv (.c (.bool false)), none⟩])
  k26_2
theorem ok26 : fnOk Try.prog 26 c26 21 [.t 2] = true := by kernel_rfl

/-- A part of (*reeve/row.Row).Load. -/
def k27_0 : ACode :=
  .seq (.region [
    ⟨(some 8), .mv (.t 0), none⟩,
    ⟨(some 9), .mv (.t 1), none⟩,
    ⟨(some 10), .nck (.t 8), none⟩,
    ⟨(some 11), .fld 8 (.t 10), none⟩,
    ⟨(some 12), .ixa 8 1 (.t 11) (.t 9), none⟩,
    ⟨(some 13), .ld none (.t 12), none⟩,
    ⟨(some 4), .mv (.t 13), none⟩])
  (.ret)

/-- A part of (*reeve/row.Row).Load. -/
def k27_1 : ACode :=
  .seq (.seq (.region [
    ⟨(some 5), .mv (.t 1), none⟩,
    ⟨(some 6), .call 74 [(.t 5)], none⟩,
    ⟨(some 7), .un .not (.t 6), none⟩])
  (.cond (.t 7)
    (.seq (.region [
      ⟨(some 4), .mv (.c (.int .u64 0)), none⟩])
    (.ret))
    (.skip)))
  k27_0

/-- (*reeve/row.Row).Load -/
def c27 : ACode :=
  .seq (.region [
    ⟨(some 4), .mv (.c (.int .u64 0)), none⟩])
  k27_1
theorem ok27 : fnOk Try.prog 27 c27 14 [.t 4] = true := by kernel_rfl

/-- A part of (*reeve/reeveref1.Row).Store. -/
def k28_0 : ACode :=
  .seq (.region [
    ⟨(some 19), .mv (.t 0), none⟩,
    ⟨(some 20), .mv (.t 0), none⟩,
    ⟨(some 21), .nck (.t 19), none⟩,
    ⟨(some 22), .fld 16 (.t 21), none⟩,
    ⟨none, .st 1 (.t 22) (.c (.bool true)), none⟩,
    ⟨(some 23), .nck (.t 20), none⟩,
    ⟨(some 24), .fld 17 (.t 23), none⟩,
    ⟨none, .st 1 (.t 24) (.c (.bool false)), none⟩])
  (.seq (.region [
    ⟨(some 6), .mv (.c (.bool true)), none⟩])
  (.ret))

/-- A part of (*reeve/reeveref1.Row).Store. -/
def k28_1 : ACode :=
  .seq (.region [
    ⟨(some 13), .mv (.t 0), none⟩,
    ⟨(some 14), .mv (.t 1), none⟩,
    ⟨(some 15), .mv (.t 2), none⟩,
    ⟨(some 16), .nck (.t 13), none⟩,
    ⟨(some 17), .fld 8 (.t 16), none⟩,
    ⟨(some 18), .ixa 8 1 (.t 17) (.t 14), none⟩,
    ⟨none, .st 1 (.t 18) (.t 15), none⟩])
  k28_0

/-- A part of (*reeve/reeveref1.Row).Store. -/
def k28_2 : ACode :=
  .seq (.seq (.region [
    ⟨(some 7), .mv (.t 1), none⟩,
    ⟨(some 8), .bin .lss (.t 7) (.c (.int .i64 0)), none⟩,
    ⟨(some 9), .mv (.t 8), none⟩,
    ⟨(some 10), .mv (.t 1), (some (9, false))⟩,
    ⟨(some 11), .bin .gtr (.t 10) (.c (.int .i64 7)), (some (9, false))⟩,
    ⟨(some 12), .pick (.t 9) (.c (.bool true)) (.t 11), none⟩])
  (.cond (.t 12)
    (.seq (.region [
      ⟨(some 6), .mv (.c (.bool false)), none⟩])
    (.ret))
    (.skip)))
  k28_1

/-- (*reeve/reeveref1.Row).Store -/
def c28 : ACode :=
  .seq (.region [
    ⟨(some 6), .mv (.c (.bool false)), none⟩])
  k28_2
theorem ok28 : fnOk Try.prog 28 c28 25 [.t 6] = true := by kernel_rfl

/-- (*reeve/reeveref1.Row).Flush -/
def c29 : ACode :=
  .seq (.region [
    ⟨(some 2), .mv (.t 0), none⟩,
    ⟨(some 3), .nck (.t 2), none⟩,
    ⟨(some 4), .fld 16 (.t 3), none⟩,
    ⟨(some 5), .ld none (.t 4), none⟩])
  (.cond (.t 5)
    (.region [
      ⟨(some 6), .mv (.t 0), none⟩,
      ⟨(some 7), .nck (.t 6), none⟩,
      ⟨(some 8), .fld 17 (.t 7), none⟩,
      ⟨none, .st 1 (.t 8) (.c (.bool true)), none⟩])
    (.skip))
theorem ok29 : fnOk Try.prog 29 c29 9 [] = true := by kernel_rfl

/-- A part of (*reeve/reeveref1.Row).Fence. -/
def k30_0 : ACode :=
  .seq (.region [
    ⟨(some 3), .mv (.t 0), none⟩,
    ⟨(some 4), .nck (.t 3), none⟩,
    ⟨(some 5), .fld 17 (.t 4), none⟩,
    ⟨(some 6), .ld none (.t 5), none⟩,
    ⟨(some 7), .mv (.t 6), none⟩,
    ⟨(some 8), .mv (.t 0), (some (7, true))⟩,
    ⟨(some 9), .call 31 [(.t 8)], (some (7, true))⟩,
    ⟨(some 10), .pick (.t 7) (.t 9) (.c (.bool false)), none⟩,
    ⟨(some 2), .mv (.t 10), none⟩])
  (.ret)

/-- (*reeve/reeveref1.Row).Fence -/
def c30 : ACode :=
  .seq (.region [
    ⟨(some 2), .mv (.c (.bool false)), none⟩])
  k30_0
theorem ok30 : fnOk Try.prog 30 c30 11 [.t 2] = true := by kernel_rfl

/-- A part of (*reeve/reeveref1.Row).Evict. -/
def k31_0 : ACode :=
  .seq (.region [
    ⟨(some 15), .mv (.t 0), none⟩,
    ⟨(some 16), .mv (.t 0), none⟩,
    ⟨(some 17), .nck (.t 15), none⟩,
    ⟨(some 18), .fld 16 (.t 17), none⟩,
    ⟨none, .st 1 (.t 18) (.c (.bool false)), none⟩,
    ⟨(some 19), .nck (.t 16), none⟩,
    ⟨(some 20), .fld 17 (.t 19), none⟩,
    ⟨none, .st 1 (.t 20) (.c (.bool false)), none⟩])
  (.seq (.region [
    ⟨(some 2), .mv (.c (.bool true)), none⟩])
  (.ret))

/-- A part of (*reeve/reeveref1.Row).Evict. -/
def k31_1 : ACode :=
  .seq (.region [
    ⟨(some 8), .mv (.t 0), none⟩,
    ⟨(some 9), .mv (.t 0), none⟩,
    ⟨(some 10), .nck (.t 9), none⟩,
    ⟨(some 11), .fld 8 (.t 10), none⟩,
    ⟨(some 12), .ld (some 8) (.t 11), none⟩,
    ⟨(some 13), .nck (.t 8), none⟩,
    ⟨(some 14), .fld 0 (.t 13), none⟩,
    ⟨none, .st 8 (.t 14) (.t 12), none⟩])
  k31_0

/-- A part of (*reeve/reeveref1.Row).Evict. -/
def k31_2 : ACode :=
  .seq (.seq (.region [
    ⟨(some 3), .mv (.t 0), none⟩,
    ⟨(some 4), .nck (.t 3), none⟩,
    ⟨(some 5), .fld 16 (.t 4), none⟩,
    ⟨(some 6), .ld none (.t 5), none⟩,
    ⟨(some 7), .un .not (.t 6), none⟩])
  (.cond (.t 7)
    (.seq (.region [
      ⟨(some 2), .mv (.c (.bool false)), none⟩])
    (.ret))
    (.skip)))
  k31_1

/-- (*reeve/reeveref1.Row).Evict -/
def c31 : ACode :=
  .seq (.region [
    ⟨(some 2), .mv (.c (.bool false)), none⟩])
  k31_2
theorem ok31 : fnOk Try.prog 31 c31 21 [.t 2] = true := by kernel_rfl

/-- A part of (*reeve/reeveref1.Row).Fall. -/
def k32_0 : ACode :=
  .seq (.region [
    ⟨(some 20), .mv (.t 0), none⟩,
    ⟨(some 21), .mv (.t 0), none⟩,
    ⟨(some 22), .nck (.t 20), none⟩,
    ⟨(some 23), .fld 16 (.t 22), none⟩,
    ⟨none, .st 1 (.t 23) (.c (.bool false)), none⟩,
    ⟨(some 24), .nck (.t 21), none⟩,
    ⟨(some 25), .fld 17 (.t 24), none⟩,
    ⟨none, .st 1 (.t 25) (.c (.bool false)), none⟩])
  (.seq (.region [
    ⟨(some 4), .mv (.c (.bool true)), none⟩])
  (.ret))

/-- A part of (*reeve/reeveref1.Row).Fall. -/
def k32_1 : ACode :=
  .seq (.region [
    ⟨(some 13), .mv (.t 0), none⟩,
    ⟨(some 14), .mv (.t 0), none⟩,
    ⟨(some 15), .nck (.t 14), none⟩,
    ⟨(some 16), .fld 0 (.t 15), none⟩,
    ⟨(some 17), .ld (some 8) (.t 16), none⟩,
    ⟨(some 18), .nck (.t 13), none⟩,
    ⟨(some 19), .fld 8 (.t 18), none⟩,
    ⟨none, .st 8 (.t 19) (.t 17), none⟩])
  k32_0

/-- A part of (*reeve/reeveref1.Row).Fall. -/
def k32_2 : ACode :=
  .seq (.seq (.region [
    ⟨(some 8), .mv (.t 0), none⟩,
    ⟨(some 9), .nck (.t 8), none⟩,
    ⟨(some 10), .fld 16 (.t 9), none⟩,
    ⟨(some 11), .ld none (.t 10), none⟩,
    ⟨(some 12), .un .not (.t 11), none⟩])
  (.cond (.t 12)
    (.seq (.region [
      ⟨(some 4), .mv (.c (.bool false)), none⟩])
    (.ret))
    (.skip)))
  k32_1

/-- (*reeve/reeveref1.Row).Fall -/
def c32 : ACode :=
  .seq (.region [
    ⟨(some 4), .mv (.c (.bool false)), none⟩])
  (.seq (.seq (.region [
    ⟨(some 5), .mv (.t 1), none⟩])
  (.cond (.t 5)
    (.seq (.region [
      ⟨(some 6), .mv (.t 0), none⟩,
      ⟨(some 7), .call 31 [(.t 6)], none⟩,
      ⟨(some 4), .mv (.t 7), none⟩])
    (.ret))
    (.skip)))
  k32_2)
theorem ok32 : fnOk Try.prog 32 c32 26 [.t 4] = true := by kernel_rfl

/-- A part of reeve/reevelaw2.is. -/
def k33_0 : ACode :=
  .seq (.region [
    ⟨(some 5), .fld 0 (.t 2), none⟩,
    ⟨(some 6), .ld (some 8) (.t 5), none⟩,
    ⟨(some 7), .fld 0 (.t 3), none⟩,
    ⟨(some 8), .ld (some 8) (.t 7), none⟩,
    ⟨(some 9), .eqs false [0, 0, 0, 0, 0, 0, 0, 0] (.t 6) (.t 8), none⟩,
    ⟨(some 10), .mv (.t 9), none⟩,
    ⟨(some 11), .fld 8 (.t 2), (some (10, true))⟩,
    ⟨(some 12), .ld (some 8) (.t 11), (some (10, true))⟩,
    ⟨(some 13), .fld 8 (.t 3), (some (10, true))⟩,
    ⟨(some 14), .ld (some 8) (.t 13), (some (10, true))⟩,
    ⟨(some 15), .eqs false [0, 0, 0, 0, 0, 0, 0, 0] (.t 12) (.t 14), (some (10, true))⟩,
    ⟨(some 16), .pick (.t 10) (.t 15) (.c (.bool false)), none⟩,
    ⟨(some 17), .mv (.t 16), none⟩,
    ⟨(some 18), .fld 16 (.t 2), (some (17, true))⟩,
    ⟨(some 19), .ld none (.t 18), (some (17, true))⟩,
    ⟨(some 20), .fld 16 (.t 3), (some (17, true))⟩,
    ⟨(some 21), .ld none (.t 20), (some (17, true))⟩,
    ⟨(some 22), .eqb false (.t 19) (.t 21), (some (17, true))⟩,
    ⟨(some 23), .pick (.t 17) (.t 22) (.c (.bool false)), none⟩,
    ⟨(some 24), .mv (.t 23), none⟩,
    ⟨(some 25), .fld 17 (.t 2), (some (24, true))⟩,
    ⟨(some 26), .ld none (.t 25), (some (24, true))⟩,
    ⟨(some 27), .fld 17 (.t 3), (some (24, true))⟩,
    ⟨(some 28), .ld none (.t 27), (some (24, true))⟩,
    ⟨(some 29), .eqb false (.t 26) (.t 28), (some (24, true))⟩,
    ⟨(some 30), .pick (.t 24) (.t 29) (.c (.bool false)), none⟩,
    ⟨(some 4), .mv (.t 30), none⟩])
  (.ret)

/-- reeve/reevelaw2.is -/
def c33 : ACode :=
  .seq (.region [
    ⟨(some 2), .box (.t 0), none⟩,
    ⟨(some 3), .box (.t 1), none⟩,
    ⟨(some 4), .mv (.c (.bool false)), none⟩])
  k33_0
theorem ok33 : fnOk Try.prog 33 c33 31 [.t 4] = true := by kernel_rfl

/-- A part of reeve/right.Parse. -/
def k34_0 : ACode :=
  .seq (.region [
    ⟨(some 12), .mv (.t 5), none⟩,
    ⟨(some 13), .call 18 [(.t 12)], none⟩,
    ⟨(some 14), .mv (.t 0), none⟩,
    ⟨(some 15), .sbin .eql (.t 13) (.t 14), none⟩])
  (.cond (.t 15)
    (.seq (.region [
      ⟨(some 16), .mv (.t 5), none⟩,
      ⟨(some 2), .mv (.t 16), none⟩,
      ⟨(some 3), .mv (.c (.bool true)), none⟩])
    (.ret))
    (.skip))

/-- A part of reeve/right.Parse. -/
def k34_1 : ACode :=
  .seq (.block 1 (
    .seq (.region [
      ⟨(some 10), .ixs 1 (.t 6) (.t 8), none⟩,
      ⟨(some 11), .ld none (.t 10), none⟩,
      ⟨(some 5), .mv (.t 11), none⟩])
    k34_0))
  (.region [
    ⟨(some 17), .bin .add (.t 8) (.c (.int .i64 1)), none⟩,
    ⟨(some 8), .mv (.t 17), none⟩])

/-- A part of reeve/right.Parse. -/
def b34_2 : ACode :=
  .seq (.region [
    ⟨(some 9), .bin .lss (.t 8) (.t 7), none⟩])
  (.seq (.cond (.t 9)
    (.skip)
    (.exit 0))
  k34_1)

/-- A part of reeve/right.Parse. -/
def k34_3 : ACode :=
  .seq (.seq (.region [
    ⟨(some 6), .call 36 [], none⟩,
    ⟨(some 7), .len false (.t 6), none⟩,
    ⟨(some 8), .mv (.c (.int .i64 0)), none⟩])
  (.block 0 (
    .loop b34_2)))
  (.seq (.region [
    ⟨(some 2), .mv (.c (.int .i64 0)), none⟩,
    ⟨(some 3), .mv (.c (.bool false)), none⟩])
  (.ret))

/-- reeve/right.Parse -/
def c34 : ACode :=
  .seq (.region [
    ⟨(some 2), .mv (.c (.int .i64 0)), none⟩,
    ⟨(some 3), .mv (.c (.bool false)), none⟩])
  k34_3
theorem ok34 : fnOk Try.prog 34 c34 18 [.t 2, .t 3] = true := by kernel_rfl

/-- reeve/right.Within -/
def c35 : ACode :=
  .seq (.region [
    ⟨(some 4), .mv (.c (.bool false)), none⟩])
  (.seq (.region [
    ⟨(some 5), .mv (.t 0), none⟩,
    ⟨(some 6), .mv (.t 1), none⟩,
    ⟨(some 7), .call 19 [(.t 5), (.t 6)], none⟩,
    ⟨(some 8), .bin .eql (.t 7) (.c (.int .i64 0)), none⟩,
    ⟨(some 4), .mv (.t 8), none⟩])
  (.ret))
theorem ok35 : fnOk Try.prog 35 c35 9 [.t 4] = true := by kernel_rfl

/-- A part of reeve/right.All. -/
def k36_0 : ACode :=
  .seq (.block 1 (
    .seq (.region [
      ⟨(some 5), .mv (.t 3), none⟩,
      ⟨(some 2), .mv (.t 5), none⟩])
    (.region [
      ⟨(some 6), .mv (.t 1), none⟩,
      ⟨(some 7), .mv (.t 2), none⟩,
      ⟨(some 8), .bsl 1 1 [.int .i64 0] [(0, (.t 7))], none⟩,
      ⟨(some 9), .app 1 8 (.t 6) (.t 8), none⟩,
      ⟨(some 1), .mv (.t 9), none⟩])))
  (.region [
    ⟨(some 10), .bin .add (.t 3) (.c (.int .i64 1)), none⟩,
    ⟨(some 3), .mv (.t 10), none⟩])

/-- A part of reeve/right.All. -/
def b36_1 : ACode :=
  .seq (.region [
    ⟨(some 4), .bin .lss (.t 3) (.c (.int .i64 8)), none⟩])
  (.seq (.cond (.t 4)
    (.skip)
    (.exit 0))
  k36_0)

/-- A part of reeve/right.All. -/
def k36_2 : ACode :=
  .seq (.region [
    ⟨(some 1), .mv (.c (.lit (.slice none 0 0))), none⟩])
  (.seq (.seq (.region [
    ⟨(some 3), .mv (.c (.int .i64 0)), none⟩])
  (.block 0 (
    .loop b36_1)))
  (.seq (.region [
    ⟨(some 11), .mv (.t 1), none⟩,
    ⟨(some 0), .mv (.t 11), none⟩])
  (.ret)))

/-- reeve/right.All -/
def c36 : ACode :=
  .seq (.region [
    ⟨(some 0), .mv (.c (.lit (.slice none 0 0))), none⟩])
  k36_2
theorem ok36 : fnOk Try.prog 36 c36 12 [.t 0] = true := by kernel_rfl

/-- A part of reeve/right.Badge. -/
def k37_0 : ACode :=
  .seq (.region [
    ⟨(some 3), .mv (.t 0), none⟩,
    ⟨(some 4), .bin .geq (.t 3) (.c (.int .i64 0)), none⟩,
    ⟨(some 5), .mv (.t 4), none⟩,
    ⟨(some 6), .mv (.t 0), (some (5, true))⟩,
    ⟨(some 7), .bin .leq (.t 6) (.c (.int .i64 65535)), (some (5, true))⟩,
    ⟨(some 8), .pick (.t 5) (.t 7) (.c (.bool false)), none⟩,
    ⟨(some 2), .mv (.t 8), none⟩])
  (.ret)

/-- reeve/right.Badge -/
def c37 : ACode :=
  .seq (.region [
    ⟨(some 2), .mv (.c (.bool false)), none⟩])
  k37_0
theorem ok37 : fnOk Try.prog 37 c37 9 [.t 2] = true := by kernel_rfl

/-- A part of reeve/reeveref7.RightParse. -/
def k38_0 : ACode :=
  .seq (.block 1 (
    .seq (.region [
      ⟨(some 9), .mv (.t 4), none⟩,
      ⟨(some 10), .call 42 [(.t 9)], none⟩,
      ⟨(some 11), .mv (.t 0), none⟩,
      ⟨(some 12), .sbin .eql (.t 10) (.t 11), none⟩])
    (.cond (.t 12)
      (.seq (.region [
        ⟨(some 13), .mv (.t 4), none⟩,
        ⟨(some 2), .mv (.t 13), none⟩,
        ⟨(some 3), .mv (.c (.bool true)), none⟩])
      (.ret))
      (.skip))))
  (.region [
    ⟨(some 7), .mv (.t 4), none⟩,
    ⟨(some 8), .bin .add (.t 7) (.c (.int .i64 1)), none⟩,
    ⟨(some 4), .mv (.t 8), none⟩])

/-- A part of reeve/reeveref7.RightParse. -/
def b38_1 : ACode :=
  .seq (.seq (.region [
    ⟨(some 5), .mv (.t 4), none⟩,
    ⟨(some 6), .bin .lss (.t 5) (.c (.int .i64 8)), none⟩])
  (.cond (.t 6)
    (.skip)
    (.exit 0)))
  k38_0

/-- reeve/reeveref7.RightParse -/
def c38 : ACode :=
  .seq (.region [
    ⟨(some 2), .mv (.c (.int .i64 0)), none⟩,
    ⟨(some 3), .mv (.c (.bool false)), none⟩])
  (.seq (.seq (.region [
    ⟨(some 4), .mv (.c (.int .i64 0)), none⟩])
  (.block 0 (
    .loop b38_1)))
  (.seq (.region [
    ⟨(some 2), .mv (.c (.int .i64 0)), none⟩,
    ⟨(some 3), .mv (.c (.bool false)), none⟩])
  (.ret)))
theorem ok38 : fnOk Try.prog 38 c38 14 [.t 2, .t 3] = true := by kernel_rfl

/-- reeve/reeveref7.Within -/
def c39 : ACode :=
  .seq (.region [
    ⟨(some 4), .mv (.c (.bool false)), none⟩])
  (.seq (.region [
    ⟨(some 5), .mv (.t 0), none⟩,
    ⟨(some 6), .mv (.t 1), none⟩,
    ⟨(some 7), .call 41 [(.t 5), (.t 6)], none⟩,
    ⟨(some 8), .bin .eql (.t 7) (.c (.int .i64 0)), none⟩,
    ⟨(some 4), .mv (.t 8), none⟩])
  (.ret))
theorem ok39 : fnOk Try.prog 39 c39 9 [.t 4] = true := by kernel_rfl

/-- A part of reeve/reeveref7.Both. -/
def k40_0 : ACode :=
  .seq (.block 1 (
    .seq (.region [
      ⟨(some 15), .mv (.t 0), none⟩,
      ⟨(some 16), .mv (.t 6), none⟩,
      ⟨(some 17), .bin .quo (.t 15) (.t 16), none⟩,
      ⟨(some 18), .bin .rem (.t 17) (.c (.int .i64 2)), none⟩,
      ⟨(some 19), .bin .eql (.t 18) (.c (.int .i64 1)), none⟩,
      ⟨(some 20), .mv (.t 19), none⟩,
      ⟨(some 21), .mv (.t 1), (some (20, true))⟩,
      ⟨(some 22), .mv (.t 6), (some (20, true))⟩,
      ⟨(some 23), .bin .quo (.t 21) (.t 22), (some (20, true))⟩,
      ⟨(some 24), .bin .rem (.t 23) (.c (.int .i64 2)), (some (20, true))⟩,
      ⟨(some 25), .bin .eql (.t 24) (.c (.int .i64 1)), (some (20, true))⟩,
      ⟨(some 26), .pick (.t 20) (.t 25) (.c (.bool false)), none⟩])
    (.cond (.t 26)
      (.region [
        ⟨(some 27), .mv (.t 5), none⟩,
        ⟨(some 28), .mv (.t 6), none⟩,
        ⟨(some 29), .bin .add (.t 27) (.t 28), none⟩,
        ⟨(some 5), .mv (.t 29), none⟩])
      (.skip))))
  (.region [
    ⟨(some 13), .mv (.t 6), none⟩,
    ⟨(some 14), .bin .mul (.c (.int .i64 2)) (.t 13), none⟩,
    ⟨(some 6), .mv (.t 14), none⟩])

/-- A part of reeve/reeveref7.Both. -/
def b40_1 : ACode :=
  .seq (.seq (.region [
    ⟨(some 11), .mv (.t 6), none⟩,
    ⟨(some 12), .bin .leq (.t 11) (.c (.int .i64 4)), none⟩])
  (.cond (.t 12)
    (.skip)
    (.exit 0)))
  k40_0

/-- A part of reeve/reeveref7.Both. -/
def k40_2 : ACode :=
  .seq (.region [
    ⟨(some 5), .mv (.c (.int .i64 0)), none⟩])
  (.seq (.seq (.region [
    ⟨(some 6), .mv (.c (.int .i64 1)), none⟩])
  (.block 0 (
    .loop b40_1)))
  (.seq (.region [
    ⟨(some 30), .mv (.t 5), none⟩,
    ⟨(some 4), .mv (.t 30), none⟩])
  (.ret)))

/-- reeve/reeveref7.Both -/
def c40 : ACode :=
  .seq (.region [
    ⟨(some 4), .mv (.c (.int .i64 0)), none⟩])
  (.seq (.region [
    ⟨(some 7), .mv (.t 0), none⟩,
    ⟨(some 8), .call 75 [(.t 7)], none⟩,
    ⟨(some 9), .mv (.t 1), none⟩,
    ⟨(some 10), .call 75 [(.t 9)], none⟩,
    ⟨(some 0), .mv (.t 8), none⟩,
    ⟨(some 1), .mv (.t 10), none⟩])
  k40_2)
theorem ok40 : fnOk Try.prog 40 c40 31 [.t 4] = true := by kernel_rfl

/-- A part of reeve/reeveref7.Less. -/
def k41_0 : ACode :=
  .seq (.region [
    ⟨(some 5), .mv (.t 0), none⟩,
    ⟨(some 6), .call 75 [(.t 5)], none⟩,
    ⟨(some 7), .mv (.t 0), none⟩,
    ⟨(some 8), .mv (.t 1), none⟩,
    ⟨(some 9), .call 40 [(.t 7), (.t 8)], none⟩,
    ⟨(some 10), .bin .sub (.t 6) (.t 9), none⟩,
    ⟨(some 4), .mv (.t 10), none⟩])
  (.ret)

/-- reeve/reeveref7.Less -/
def c41 : ACode :=
  .seq (.region [
    ⟨(some 4), .mv (.c (.int .i64 0)), none⟩])
  k41_0
theorem ok41 : fnOk Try.prog 41 c41 11 [.t 4] = true := by kernel_rfl

/-- A part of reeve/reeveref7.RightText. -/
def k42_0 : ACode :=
  .seq (.seq (.region [
    ⟨(some 22), .mv (.t 3), none⟩,
    ⟨(some 23), .sbin .eql (.t 22) (.c (.str [])), none⟩])
  (.cond (.t 23)
    (.seq (.region [
      ⟨(some 2), .mv (.c (.str [45])), none⟩])
    (.ret))
    (.skip)))
  (.seq (.region [
    ⟨(some 24), .mv (.t 3), none⟩,
    ⟨(some 2), .mv (.t 24), none⟩])
  (.ret))

/-- A part of reeve/reeveref7.RightText. -/
def k42_1 : ACode :=
  .seq (.seq (.region [
    ⟨(some 17), .mv (.t 0), none⟩,
    ⟨(some 18), .bin .quo (.t 17) (.c (.int .i64 4)), none⟩,
    ⟨(some 19), .bin .eql (.t 18) (.c (.int .i64 1)), none⟩])
  (.cond (.t 19)
    (.region [
      ⟨(some 20), .mv (.t 3), none⟩,
      ⟨(some 21), .sbin .add (.t 20) (.c (.str [103])), none⟩,
      ⟨(some 3), .mv (.t 21), none⟩])
    (.skip)))
  k42_0

/-- A part of reeve/reeveref7.RightText. -/
def k42_2 : ACode :=
  .seq (.seq (.region [
    ⟨(some 11), .mv (.t 0), none⟩,
    ⟨(some 12), .bin .quo (.t 11) (.c (.int .i64 2)), none⟩,
    ⟨(some 13), .bin .rem (.t 12) (.c (.int .i64 2)), none⟩,
    ⟨(some 14), .bin .eql (.t 13) (.c (.int .i64 1)), none⟩])
  (.cond (.t 14)
    (.region [
      ⟨(some 15), .mv (.t 3), none⟩,
      ⟨(some 16), .sbin .add (.t 15) (.c (.str [119])), none⟩,
      ⟨(some 3), .mv (.t 16), none⟩])
    (.skip)))
  k42_1

/-- A part of reeve/reeveref7.RightText. -/
def k42_3 : ACode :=
  .seq (.seq (.region [
    ⟨(some 6), .mv (.t 0), none⟩,
    ⟨(some 7), .bin .rem (.t 6) (.c (.int .i64 2)), none⟩,
    ⟨(some 8), .bin .eql (.t 7) (.c (.int .i64 1)), none⟩])
  (.cond (.t 8)
    (.region [
      ⟨(some 9), .mv (.t 3), none⟩,
      ⟨(some 10), .sbin .add (.t 9) (.c (.str [114])), none⟩,
      ⟨(some 3), .mv (.t 10), none⟩])
    (.skip)))
  k42_2

/-- reeve/reeveref7.RightText -/
def c42 : ACode :=
  .seq (.region [
    ⟨(some 2), .mv (.c (.str [])), none⟩])
  (.seq (.region [
    ⟨(some 4), .mv (.t 0), none⟩,
    ⟨(some 5), .call 75 [(.t 4)], none⟩,
    ⟨(some 0), .mv (.t 5), none⟩])
  (.seq (.region [
    ⟨(some 3), .mv (.c (.str [])), none⟩])
  k42_3))
theorem ok42 : fnOk Try.prog 42 c42 25 [.t 2] = true := by kernel_rfl

/-- A part of reeve/reevelaw3.awake. -/
def k43_0 : ACode :=
  .seq (.region [
    ⟨(some 40), .mv (.t 3), none⟩,
    ⟨(some 41), .bin .eql (.t 40) (.c (.int .i64 0)), none⟩,
    ⟨(some 42), .mv (.t 41), none⟩,
    ⟨(some 43), .mv (.t 4), (some (42, true))⟩,
    ⟨(some 44), .bin .eql (.t 43) (.c (.int .i64 0)), (some (42, true))⟩,
    ⟨(some 45), .pick (.t 42) (.t 44) (.c (.bool false)), none⟩,
    ⟨(some 46), .mv (.t 45), none⟩,
    ⟨(some 47), .mv (.t 5), (some (46, true))⟩,
    ⟨(some 48), .bin .eql (.t 47) (.c (.int .i64 0)), (some (46, true))⟩,
    ⟨(some 49), .pick (.t 46) (.t 48) (.c (.bool false)), none⟩,
    ⟨(some 50), .mv (.t 49), none⟩,
    ⟨(some 51), .mv (.t 7), (some (50, true))⟩,
    ⟨(some 52), .bin .eql (.t 51) (.c (.int .i64 12)), (some (50, true))⟩,
    ⟨(some 53), .pick (.t 50) (.t 52) (.c (.bool false)), none⟩,
    ⟨(some 54), .mv (.t 53), none⟩,
    ⟨(some 55), .mv (.t 9), (some (54, true))⟩,
    ⟨(some 56), .bin .eql (.t 55) (.c (.int .i64 0)), (some (54, true))⟩,
    ⟨(some 57), .pick (.t 54) (.t 56) (.c (.bool false)), none⟩,
    ⟨(some 58), .mv (.t 57), none⟩,
    ⟨(some 59), .mv (.t 8), (some (58, true))⟩,
    ⟨(some 60), .bin .eql (.t 59) (.c (.int .u64 7)), (some (58, true))⟩,
    ⟨(some 61), .pick (.t 58) (.t 60) (.c (.bool false)), none⟩,
    ⟨(some 62), .mv (.t 61), none⟩,
    ⟨(some 63), .mv (.t 1), (some (62, true))⟩,
    ⟨(some 64), .call 56 [(.t 63)], (some (62, true))⟩,
    ⟨(some 65), .bin .eql (.t 64) (.c (.int .i64 3)), (some (62, true))⟩,
    ⟨(some 66), .pick (.t 62) (.t 65) (.c (.bool false)), none⟩,
    ⟨(some 0), .mv (.t 66), none⟩])
  (.ret)

/-- A part of reeve/reevelaw3.awake. -/
def k43_1 : ACode :=
  .seq (.region [
    ⟨(some 36), .mv (.t 1), none⟩,
    ⟨(some 37), .call 46 [(.t 36), (.c (.int .i64 9))], none⟩,
    ⟨(some 35), .mv (.t 37), none⟩,
    ⟨(some 38), .ext (.t 35) 0, none⟩,
    ⟨(some 39), .ext (.t 35) 1, none⟩,
    ⟨(some 8), .mv (.t 38), none⟩,
    ⟨(some 9), .mv (.t 39), none⟩])
  k43_0

/-- A part of reeve/reevelaw3.awake. -/
def k43_2 : ACode :=
  .seq (.region [
    ⟨(some 29), .mv (.t 1), none⟩,
    ⟨(some 30), .call 46 [(.t 29), (.c (.int .i64 9))], none⟩,
    ⟨(some 28), .mv (.t 30), none⟩,
    ⟨(some 31), .ext (.t 28) 0, none⟩,
    ⟨(some 32), .ext (.t 28) 1, none⟩,
    ⟨(some 6), .mv (.t 31), none⟩,
    ⟨(some 7), .mv (.t 32), none⟩])
  (.seq (.region [
    ⟨(some 33), .mv (.t 1), none⟩,
    ⟨(some 34), .call 66 [(.t 33)], none⟩])
  k43_1)

/-- A part of reeve/reevelaw3.awake. -/
def k43_3 : ACode :=
  .seq (.region [
    ⟨(some 20), .mv (.t 1), none⟩,
    ⟨(some 21), .call 47 [(.t 20), (.c (.int .i64 9)), (.c (.int .u64 7))], none⟩,
    ⟨(some 22), .mv (.t 1), none⟩,
    ⟨(some 23), .call 48 [(.t 22), (.c (.int .i64 1))], none⟩,
    ⟨(some 24), .mv (.t 1), none⟩,
    ⟨(some 25), .call 49 [(.t 24)], none⟩,
    ⟨(some 3), .mv (.t 21), none⟩,
    ⟨(some 4), .mv (.t 23), none⟩,
    ⟨(some 5), .mv (.t 25), none⟩])
  (.seq (.region [
    ⟨(some 26), .mv (.t 1), none⟩,
    ⟨(some 27), .call 52 [(.t 26), (.c (.lit (.slice none 0 0)))], none⟩])
  k43_2)

/-- A part of reeve/reevelaw3.awake. -/
def k43_4 : ACode :=
  .seq (.seq (.region [
    ⟨(some 14), .mv (.t 2), none⟩,
    ⟨(some 15), .bin .neq (.t 14) (.c (.int .i64 0)), none⟩,
    ⟨(some 16), .mv (.t 15), none⟩,
    ⟨(some 17), .mv (.t 1), (some (16, false))⟩,
    ⟨(some 18), .isNil false 0 (.t 17), (some (16, false))⟩,
    ⟨(some 19), .pick (.t 16) (.c (.bool true)) (.t 18), none⟩])
  (.cond (.t 19)
    (.seq (.region [
      ⟨(some 0), .mv (.c (.bool false)), none⟩])
    (.ret))
    (.skip)))
  k43_3

/-- A part of reeve/reevelaw3.awake. -/
def k43_5 : ACode :=
  .seq (.region [
    ⟨(some 11), .call 44 [(.c (.int .i64 2))], none⟩,
    ⟨(some 10), .mv (.t 11), none⟩,
    ⟨(some 12), .ext (.t 10) 0, none⟩,
    ⟨(some 13), .ext (.t 10) 1, none⟩,
    ⟨(some 1), .mv (.t 12), none⟩,
    ⟨(some 2), .mv (.t 13), none⟩])
  k43_4

/-- reeve/reevelaw3.awake -/
def c43 : ACode :=
  .seq (.region [
    ⟨(some 0), .mv (.c (.bool false)), none⟩])
  k43_5
theorem ok43 : fnOk Try.prog 43 c43 67 [.t 0] = true := by kernel_rfl

/-- A part of reeve/nvm.New. -/
def k44_0 : ACode :=
  .seq (.region [
    ⟨(some 10), .mv (.t 0), none⟩,
    ⟨(some 11), .mks 18 136 [.int .u64 0, .int .u64 0, .int .u64 0, .int .u64 0, .int .u64 0, .int .u64 0, .int .u64 0, .int .u64 0, .int .u64 0, .int .u64 0, .int .u64 0, .int .u64 0, .int .u64 0, .int .u64 0, .int .u64 0, .int .u64 0, .bool false, .bool false] (.t 10) (.t 10), none⟩,
    ⟨(some 12), .build [.lit (.slice none 0 0), .bool false, .int .i64 0, .int .i64 0, .lit (.slice none 0 0)] [(0, 1, (.t 11))], none⟩,
    ⟨(some 13), .box (.t 12), none⟩,
    ⟨(some 2), .mv (.t 13), none⟩,
    ⟨(some 3), .mv (.c (.int .i64 0)), none⟩])
  (.ret)

/-- A part of reeve/nvm.New. -/
def k44_1 : ACode :=
  .seq (.seq (.region [
    ⟨(some 4), .mv (.t 0), none⟩,
    ⟨(some 5), .bin .lss (.t 4) (.c (.int .i64 1)), none⟩,
    ⟨(some 6), .mv (.t 5), none⟩,
    ⟨(some 7), .mv (.t 0), (some (6, false))⟩,
    ⟨(some 8), .bin .gtr (.t 7) (.c (.int .i64 4096)), (some (6, false))⟩,
    ⟨(some 9), .pick (.t 6) (.c (.bool true)) (.t 8), none⟩])
  (.cond (.t 9)
    (.seq (.region [
      ⟨(some 2), .mv (.c (.lit (.pointer none))), none⟩,
      ⟨(some 3), .mv (.c (.int .i64 1)), none⟩])
    (.ret))
    (.skip)))
  k44_0

/-- reeve/nvm.New -/
def c44 : ACode :=
  .seq (.region [
    ⟨(some 2), .mv (.c (.lit (.pointer none))), none⟩,
    ⟨(some 3), .mv (.c (.int .i64 0)), none⟩])
  k44_1
theorem ok44 : fnOk Try.prog 44 c44 14 [.t 2, .t 3] = true := by kernel_rfl

/-- A part of (*reeve/nvm.Mem).Swap. -/
def k45_0 : ACode :=
  .seq (.region [
    ⟨(some 26), .mv (.t 0), none⟩,
    ⟨(some 27), .mv (.t 1), none⟩,
    ⟨(some 28), .mv (.t 3), none⟩,
    ⟨(some 29), .call 47 [(.t 26), (.t 27), (.t 28)], none⟩,
    ⟨(some 11), .mv (.t 29), none⟩])
  (.seq (.region [
    ⟨(some 30), .mv (.t 11), none⟩,
    ⟨(some 31), .bin .eql (.t 30) (.c (.int .i64 0)), none⟩,
    ⟨(some 32), .mv (.t 11), none⟩,
    ⟨(some 8), .mv (.t 31), none⟩,
    ⟨(some 9), .mv (.t 32), none⟩])
  (.ret))

/-- A part of (*reeve/nvm.Mem).Swap. -/
def k45_1 : ACode :=
  .seq (.seq (.region [
    ⟨(some 18), .mv (.t 11), none⟩,
    ⟨(some 19), .bin .neq (.t 18) (.c (.int .i64 0)), none⟩,
    ⟨(some 20), .mv (.t 19), none⟩,
    ⟨(some 21), .mv (.t 10), (some (20, false))⟩,
    ⟨(some 22), .mv (.t 2), (some (20, false))⟩,
    ⟨(some 23), .bin .neq (.t 21) (.t 22), (some (20, false))⟩,
    ⟨(some 24), .pick (.t 20) (.c (.bool true)) (.t 23), none⟩])
  (.cond (.t 24)
    (.seq (.region [
      ⟨(some 25), .mv (.t 11), none⟩,
      ⟨(some 8), .mv (.c (.bool false)), none⟩,
      ⟨(some 9), .mv (.t 25), none⟩])
    (.ret))
    (.skip)))
  k45_0

/-- A part of (*reeve/nvm.Mem).Swap. -/
def k45_2 : ACode :=
  .seq (.region [
    ⟨(some 13), .mv (.t 0), none⟩,
    ⟨(some 14), .mv (.t 1), none⟩,
    ⟨(some 15), .call 46 [(.t 13), (.t 14)], none⟩,
    ⟨(some 12), .mv (.t 15), none⟩,
    ⟨(some 16), .ext (.t 12) 0, none⟩,
    ⟨(some 17), .ext (.t 12) 1, none⟩,
    ⟨(some 10), .mv (.t 16), none⟩,
    ⟨(some 11), .mv (.t 17), none⟩])
  k45_1

/-- (*reeve/nvm.Mem).Swap -/
def c45 : ACode :=
  .seq (.region [
    ⟨(some 8), .mv (.c (.bool false)), none⟩,
    ⟨(some 9), .mv (.c (.int .i64 0)), none⟩])
  k45_2
theorem ok45 : fnOk Try.prog 45 c45 33 [.t 8, .t 9] = true := by kernel_rfl

/-- A part of (*reeve/nvm.Mem).Load. -/
def k46_0 : ACode :=
  .seq (.region [
    ⟨(some 16), .mv (.t 6), none⟩,
    ⟨(some 17), .bin .neq (.t 16) (.c (.int .i64 0)), none⟩])
  (.cond (.t 17)
    (.seq (.region [
      ⟨(some 18), .mv (.t 6), none⟩,
      ⟨(some 4), .mv (.c (.int .u64 0)), none⟩,
      ⟨(some 5), .mv (.t 18), none⟩])
    (.ret))
    (.skip))

/-- A part of (*reeve/nvm.Mem).Load. -/
def k46_1 : ACode :=
  .seq (.region [
    ⟨(some 19), .mv (.t 0), none⟩,
    ⟨(some 20), .nck (.t 19), none⟩,
    ⟨(some 21), .fld 0 (.t 20), none⟩,
    ⟨(some 22), .ld none (.t 21), none⟩,
    ⟨(some 23), .mv (.t 1), none⟩,
    ⟨(some 24), .bin .quo (.t 23) (.c (.int .i64 8)), none⟩,
    ⟨(some 25), .ixs 18 (.t 22) (.t 24), none⟩,
    ⟨(some 26), .mv (.t 1), none⟩,
    ⟨(some 27), .bin .rem (.t 26) (.c (.int .i64 8)), none⟩,
    ⟨(some 28), .call 27 [(.t 25), (.t 27)], none⟩,
    ⟨(some 4), .mv (.t 28), none⟩,
    ⟨(some 5), .mv (.c (.int .i64 0)), none⟩])
  (.ret)

/-- A part of (*reeve/nvm.Mem).Load. -/
def k46_2 : ACode :=
  .seq (.seq (.region [
    ⟨(some 7), .mv (.t 0), none⟩,
    ⟨(some 8), .mv (.t 1), none⟩,
    ⟨(some 9), .mv (.t 0), none⟩,
    ⟨(some 10), .nck (.t 9), none⟩,
    ⟨(some 11), .fld 0 (.t 10), none⟩,
    ⟨(some 12), .ld none (.t 11), none⟩,
    ⟨(some 13), .len false (.t 12), none⟩,
    ⟨(some 14), .bin .mul (.t 13) (.c (.int .i64 8)), none⟩,
    ⟨(some 15), .call 76 [(.t 7), (.t 8), (.t 14)], none⟩,
    ⟨(some 6), .mv (.t 15), none⟩])
  k46_0)
  k46_1

/-- (*reeve/nvm.Mem).Load -/
def c46 : ACode :=
  .seq (.region [
    ⟨(some 4), .mv (.c (.int .u64 0)), none⟩,
    ⟨(some 5), .mv (.c (.int .i64 0)), none⟩])
  k46_2
theorem ok46 : fnOk Try.prog 46 c46 29 [.t 4, .t 5] = true := by kernel_rfl

/-- A part of (*reeve/nvm.Mem).Store. -/
def k47_0 : ACode :=
  .seq (.region [
    ⟨(some 23), .mv (.t 0), none⟩,
    ⟨(some 24), .nck (.t 23), none⟩,
    ⟨(some 25), .fld 0 (.t 24), none⟩,
    ⟨(some 26), .ld none (.t 25), none⟩,
    ⟨(some 27), .mv (.t 1), none⟩,
    ⟨(some 28), .bin .quo (.t 27) (.c (.int .i64 8)), none⟩,
    ⟨(some 29), .ixs 18 (.t 26) (.t 28), none⟩,
    ⟨(some 30), .mv (.t 1), none⟩,
    ⟨(some 31), .bin .rem (.t 30) (.c (.int .i64 8)), none⟩,
    ⟨(some 32), .mv (.t 2), none⟩,
    ⟨(some 33), .call 22 [(.t 29), (.t 31), (.t 32)], none⟩])
  (.seq (.region [
    ⟨(some 6), .mv (.c (.int .i64 0)), none⟩])
  (.ret))

/-- A part of (*reeve/nvm.Mem).Store. -/
def k47_1 : ACode :=
  .seq (.seq (.region [
    ⟨(some 20), .mv (.t 0), none⟩,
    ⟨(some 21), .call 77 [(.t 20)], none⟩,
    ⟨(some 22), .un .not (.t 21), none⟩])
  (.cond (.t 22)
    (.seq (.region [
      ⟨(some 6), .mv (.c (.int .i64 12)), none⟩])
    (.ret))
    (.skip)))
  k47_0

/-- A part of (*reeve/nvm.Mem).Store. -/
def k47_2 : ACode :=
  .seq (.seq (.region [
    ⟨(some 8), .mv (.t 0), none⟩,
    ⟨(some 9), .mv (.t 1), none⟩,
    ⟨(some 10), .mv (.t 0), none⟩,
    ⟨(some 11), .nck (.t 10), none⟩,
    ⟨(some 12), .fld 0 (.t 11), none⟩,
    ⟨(some 13), .ld none (.t 12), none⟩,
    ⟨(some 14), .len false (.t 13), none⟩,
    ⟨(some 15), .bin .mul (.t 14) (.c (.int .i64 8)), none⟩,
    ⟨(some 16), .call 76 [(.t 8), (.t 9), (.t 15)], none⟩,
    ⟨(some 7), .mv (.t 16), none⟩])
  (.seq (.region [
    ⟨(some 17), .mv (.t 7), none⟩,
    ⟨(some 18), .bin .neq (.t 17) (.c (.int .i64 0)), none⟩])
  (.cond (.t 18)
    (.seq (.region [
      ⟨(some 19), .mv (.t 7), none⟩,
      ⟨(some 6), .mv (.t 19), none⟩])
    (.ret))
    (.skip))))
  k47_1

/-- (*reeve/nvm.Mem).Store -/
def c47 : ACode :=
  .seq (.region [
    ⟨(some 6), .mv (.c (.int .i64 0)), none⟩])
  k47_2
theorem ok47 : fnOk Try.prog 47 c47 34 [.t 6] = true := by kernel_rfl

/-- A part of (*reeve/nvm.Mem).Flush. -/
def k48_0 : ACode :=
  .seq (.region [
    ⟨(some 20), .mv (.t 0), none⟩,
    ⟨(some 21), .nck (.t 20), none⟩,
    ⟨(some 22), .fld 0 (.t 21), none⟩,
    ⟨(some 23), .ld none (.t 22), none⟩,
    ⟨(some 24), .mv (.t 1), none⟩,
    ⟨(some 25), .ixs 18 (.t 23) (.t 24), none⟩,
    ⟨(some 26), .call 24 [(.t 25)], none⟩])
  (.seq (.region [
    ⟨(some 4), .mv (.c (.int .i64 0)), none⟩])
  (.ret))

/-- A part of (*reeve/nvm.Mem).Flush. -/
def k48_1 : ACode :=
  .seq (.seq (.region [
    ⟨(some 17), .mv (.t 0), none⟩,
    ⟨(some 18), .call 77 [(.t 17)], none⟩,
    ⟨(some 19), .un .not (.t 18), none⟩])
  (.cond (.t 19)
    (.seq (.region [
      ⟨(some 4), .mv (.c (.int .i64 12)), none⟩])
    (.ret))
    (.skip)))
  k48_0

/-- A part of (*reeve/nvm.Mem).Flush. -/
def k48_2 : ACode :=
  .seq (.seq (.region [
    ⟨(some 6), .mv (.t 0), none⟩,
    ⟨(some 7), .mv (.t 1), none⟩,
    ⟨(some 8), .mv (.t 0), none⟩,
    ⟨(some 9), .nck (.t 8), none⟩,
    ⟨(some 10), .fld 0 (.t 9), none⟩,
    ⟨(some 11), .ld none (.t 10), none⟩,
    ⟨(some 12), .len false (.t 11), none⟩,
    ⟨(some 13), .call 76 [(.t 6), (.t 7), (.t 12)], none⟩,
    ⟨(some 5), .mv (.t 13), none⟩])
  (.seq (.region [
    ⟨(some 14), .mv (.t 5), none⟩,
    ⟨(some 15), .bin .neq (.t 14) (.c (.int .i64 0)), none⟩])
  (.cond (.t 15)
    (.seq (.region [
      ⟨(some 16), .mv (.t 5), none⟩,
      ⟨(some 4), .mv (.t 16), none⟩])
    (.ret))
    (.skip))))
  k48_1

/-- (*reeve/nvm.Mem).Flush -/
def c48 : ACode :=
  .seq (.region [
    ⟨(some 4), .mv (.c (.int .i64 0)), none⟩])
  k48_2
theorem ok48 : fnOk Try.prog 48 c48 27 [.t 4] = true := by kernel_rfl

/-- A part of (*reeve/nvm.Mem).Fence. -/
def k49_0 : ACode :=
  .region [
    ⟨(some 21), .mv (.t 0), none⟩,
    ⟨(some 22), .nck (.t 21), none⟩,
    ⟨(some 23), .fld 0 (.t 22), none⟩,
    ⟨(some 24), .ld none (.t 23), none⟩,
    ⟨(some 25), .mv (.t 4), none⟩,
    ⟨(some 26), .ixs 18 (.t 24) (.t 25), none⟩,
    ⟨(some 27), .call 23 [(.t 26)], none⟩]

/-- A part of (*reeve/nvm.Mem).Fence. -/
def k49_1 : ACode :=
  .seq (.cond (.t 19)
    (.skip)
    (.exit 0))
  (.seq (.block 1 (
    .seq (.region [
      ⟨(some 20), .mv (.t 18), none⟩,
      ⟨(some 4), .mv (.t 20), none⟩])
    k49_0))
  (.region [
    ⟨(some 28), .bin .add (.t 18) (.c (.int .i64 1)), none⟩,
    ⟨(some 18), .mv (.t 28), none⟩]))

/-- A part of (*reeve/nvm.Mem).Fence. -/
def b49_2 : ACode :=
  .seq (.region [
    ⟨(some 19), .bin .lss (.t 18) (.t 17), none⟩])
  k49_1

/-- A part of (*reeve/nvm.Mem).Fence. -/
def k49_3 : ACode :=
  .seq (.seq (.region [
    ⟨(some 13), .mv (.t 0), none⟩,
    ⟨(some 14), .nck (.t 13), none⟩,
    ⟨(some 15), .fld 0 (.t 14), none⟩,
    ⟨(some 16), .ld none (.t 15), none⟩,
    ⟨(some 17), .len false (.t 16), none⟩,
    ⟨(some 18), .mv (.c (.int .i64 0)), none⟩])
  (.block 0 (
    .loop b49_2)))
  (.seq (.region [
    ⟨(some 2), .mv (.c (.int .i64 0)), none⟩])
  (.ret))

/-- A part of (*reeve/nvm.Mem).Fence. -/
def k49_4 : ACode :=
  .seq (.seq (.region [
    ⟨(some 10), .mv (.t 0), none⟩,
    ⟨(some 11), .call 77 [(.t 10)], none⟩,
    ⟨(some 12), .un .not (.t 11), none⟩])
  (.cond (.t 12)
    (.seq (.region [
      ⟨(some 2), .mv (.c (.int .i64 12)), none⟩])
    (.ret))
    (.skip)))
  k49_3

/-- A part of (*reeve/nvm.Mem).Fence. -/
def k49_5 : ACode :=
  .seq (.seq (.region [
    ⟨(some 5), .mv (.t 0), none⟩,
    ⟨(some 6), .call 76 [(.t 5), (.c (.int .i64 0)), (.c (.int .i64 1))], none⟩,
    ⟨(some 3), .mv (.t 6), none⟩])
  (.seq (.region [
    ⟨(some 7), .mv (.t 3), none⟩,
    ⟨(some 8), .bin .neq (.t 7) (.c (.int .i64 0)), none⟩])
  (.cond (.t 8)
    (.seq (.region [
      ⟨(some 9), .mv (.t 3), none⟩,
      ⟨(some 2), .mv (.t 9), none⟩])
    (.ret))
    (.skip))))
  k49_4

/-- (*reeve/nvm.Mem).Fence -/
def c49 : ACode :=
  .seq (.region [
    ⟨(some 2), .mv (.c (.int .i64 0)), none⟩])
  k49_5
theorem ok49 : fnOk Try.prog 49 c49 29 [.t 2] = true := by kernel_rfl

/-- A part of (*reeve/nvm.Mem).Out. -/
def k50_0 : ACode :=
  .cond (.t 17)
    (.region [
      ⟨(some 18), .mv (.t 3), none⟩,
      ⟨(some 19), .mv (.t 4), none⟩,
      ⟨(some 20), .bsl 1 1 [.int .i64 0] [(0, (.t 19))], none⟩,
      ⟨(some 21), .app 1 8 (.t 18) (.t 20), none⟩,
      ⟨(some 3), .mv (.t 21), none⟩])
    (.skip)

/-- A part of (*reeve/nvm.Mem).Out. -/
def k50_1 : ACode :=
  .seq (.block 1 (
    .seq (.region [
      ⟨(some 13), .mv (.t 11), none⟩,
      ⟨(some 14), .ixs 18 (.t 9) (.t 11), none⟩,
      ⟨(some 15), .ld (some 18) (.t 14), none⟩,
      ⟨(some 5), .new [.int .u64 0, .int .u64 0, .int .u64 0, .int .u64 0, .int .u64 0, .int .u64 0, .int .u64 0, .int .u64 0, .int .u64 0, .int .u64 0, .int .u64 0, .int .u64 0, .int .u64 0, .int .u64 0, .int .u64 0, .int .u64 0, .bool false, .bool false], none⟩,
      ⟨(some 4), .mv (.t 13), none⟩,
      ⟨none, .st 18 (.t 5) (.t 15), none⟩])
    (.seq (.region [
      ⟨(some 16), .fld 16 (.t 5), none⟩,
      ⟨(some 17), .ld none (.t 16), none⟩])
    k50_0)))
  (.region [
    ⟨(some 22), .bin .add (.t 11) (.c (.int .i64 1)), none⟩,
    ⟨(some 11), .mv (.t 22), none⟩])

/-- A part of (*reeve/nvm.Mem).Out. -/
def b50_2 : ACode :=
  .seq (.region [
    ⟨(some 12), .bin .lss (.t 11) (.t 10), none⟩])
  (.seq (.cond (.t 12)
    (.skip)
    (.exit 0))
  k50_1)

/-- A part of (*reeve/nvm.Mem).Out. -/
def k50_3 : ACode :=
  .seq (.seq (.region [
    ⟨(some 6), .mv (.t 0), none⟩,
    ⟨(some 7), .nck (.t 6), none⟩,
    ⟨(some 8), .fld 0 (.t 7), none⟩,
    ⟨(some 9), .ld none (.t 8), none⟩,
    ⟨(some 10), .len false (.t 9), none⟩,
    ⟨(some 11), .mv (.c (.int .i64 0)), none⟩])
  (.block 0 (
    .loop b50_2)))
  (.seq (.region [
    ⟨(some 23), .mv (.t 3), none⟩,
    ⟨(some 2), .mv (.t 23), none⟩])
  (.ret))

/-- (*reeve/nvm.Mem).Out -/
def c50 : ACode :=
  .seq (.region [
    ⟨(some 2), .mv (.c (.lit (.slice none 0 0))), none⟩])
  (.seq (.region [
    ⟨(some 3), .mv (.c (.lit (.slice none 0 0))), none⟩])
  k50_3)
theorem ok50 : fnOk Try.prog 50 c50 24 [.t 2] = true := by kernel_rfl

/-- A part of (*reeve/nvm.Mem).Words. -/
def k51_0 : ACode :=
  .seq (.block 1 (
    .seq (.region [
      ⟨(some 20), .ixs 18 (.t 16) (.t 18), none⟩,
      ⟨(some 21), .ld (some 18) (.t 20), none⟩,
      ⟨(some 5), .new [.int .u64 0, .int .u64 0, .int .u64 0, .int .u64 0, .int .u64 0, .int .u64 0, .int .u64 0, .int .u64 0, .int .u64 0, .int .u64 0, .int .u64 0, .int .u64 0, .int .u64 0, .int .u64 0, .int .u64 0, .int .u64 0, .bool false, .bool false], none⟩,
      ⟨none, .st 18 (.t 5) (.t 21), none⟩])
    (.region [
      ⟨(some 22), .mv (.t 3), none⟩,
      ⟨(some 23), .fld 8 (.t 5), none⟩,
      ⟨(some 24), .sla 8 (.t 23) none none, none⟩,
      ⟨(some 25), .app 1 8 (.t 22) (.t 24), none⟩,
      ⟨(some 3), .mv (.t 25), none⟩])))
  (.region [
    ⟨(some 26), .bin .add (.t 18) (.c (.int .i64 1)), none⟩,
    ⟨(some 18), .mv (.t 26), none⟩])

/-- A part of (*reeve/nvm.Mem).Words. -/
def b51_1 : ACode :=
  .seq (.region [
    ⟨(some 19), .bin .lss (.t 18) (.t 17), none⟩])
  (.seq (.cond (.t 19)
    (.skip)
    (.exit 0))
  k51_0)

/-- A part of (*reeve/nvm.Mem).Words. -/
def k51_2 : ACode :=
  .seq (.seq (.region [
    ⟨(some 13), .mv (.t 0), none⟩,
    ⟨(some 14), .nck (.t 13), none⟩,
    ⟨(some 15), .fld 0 (.t 14), none⟩,
    ⟨(some 16), .ld none (.t 15), none⟩,
    ⟨(some 17), .len false (.t 16), none⟩,
    ⟨(some 18), .mv (.c (.int .i64 0)), none⟩])
  (.block 0 (
    .loop b51_1)))
  (.seq (.region [
    ⟨(some 27), .mv (.t 3), none⟩,
    ⟨(some 2), .mv (.t 27), none⟩])
  (.ret))

/-- A part of (*reeve/nvm.Mem).Words. -/
def k51_3 : ACode :=
  .seq (.region [
    ⟨(some 6), .mv (.t 0), none⟩,
    ⟨(some 7), .nck (.t 6), none⟩,
    ⟨(some 8), .fld 0 (.t 7), none⟩,
    ⟨(some 9), .ld none (.t 8), none⟩,
    ⟨(some 10), .len false (.t 9), none⟩,
    ⟨(some 11), .bin .mul (.t 10) (.c (.int .i64 8)), none⟩,
    ⟨(some 12), .mks 1 8 [.int .u64 0] (.c (.int .i64 0)) (.t 11), none⟩,
    ⟨(some 3), .mv (.t 12), none⟩])
  k51_2

/-- (*reeve/nvm.Mem).Words -/
def c51 : ACode :=
  .seq (.region [
    ⟨(some 2), .mv (.c (.lit (.slice none 0 0))), none⟩])
  k51_3
theorem ok51 : fnOk Try.prog 51 c51 28 [.t 2] = true := by kernel_rfl

/-- A part of (*reeve/nvm.Mem).Crash. -/
def k52_0 : ACode :=
  .drawn [
    ⟨(some 17), .mv (.t 0), none⟩,
    ⟨(some 18), .nck (.t 17), none⟩,
    ⟨(some 19), .fld 0 (.t 18), none⟩,
    ⟨(some 20), .ld none (.t 19), none⟩,
    ⟨(some 21), .mv (.t 4), none⟩,
    ⟨(some 22), .ixs 18 (.t 20) (.t 21), none⟩,
    ⟨(some 23), .mv (.t 1), none⟩,
    ⟨(some 24), .mv (.t 4), none⟩,
    ⟨(some 25), .call 78 [(.t 23), (.t 24)], none⟩,
    ⟨(some 26), .call 25 [(.t 22), (.t 25)], none⟩]
  [[], [0], [1], [2], [], [3, 4], [], [], [6, 7], [5, 8, 8]]
  [0, 1, 2, 3, 4, 5, 6, 7, 8, 9]

/-- A part of (*reeve/nvm.Mem).Crash. -/
def k52_1 : ACode :=
  .seq (.cond (.t 15)
    (.skip)
    (.exit 0))
  (.seq (.block 1 (
    .seq (.region [
      ⟨(some 16), .mv (.t 14), none⟩,
      ⟨(some 4), .mv (.t 16), none⟩])
    k52_0))
  (.region [
    ⟨(some 27), .bin .add (.t 14) (.c (.int .i64 1)), none⟩,
    ⟨(some 14), .mv (.t 27), none⟩]))

/-- A part of (*reeve/nvm.Mem).Crash. -/
def b52_2 : ACode :=
  .seq (.region [
    ⟨(some 15), .bin .lss (.t 14) (.t 13), none⟩])
  k52_1

/-- A part of (*reeve/nvm.Mem).Crash. -/
def k52_3 : ACode :=
  .seq (.region [
    ⟨(some 28), .mv (.t 0), none⟩,
    ⟨(some 29), .nck (.t 28), none⟩,
    ⟨(some 30), .fld 1 (.t 29), none⟩,
    ⟨none, .st 1 (.t 30) (.c (.bool true)), none⟩])
  (.region [
    ⟨(some 31), .mv (.t 0), none⟩,
    ⟨(some 32), .nck (.t 31), none⟩,
    ⟨(some 33), .fld 3 (.t 32), none⟩,
    ⟨none, .st 1 (.t 33) (.c (.int .i64 0)), none⟩])

/-- A part of (*reeve/nvm.Mem).Crash. -/
def k52_4 : ACode :=
  .seq (.seq (.region [
    ⟨(some 9), .mv (.t 0), none⟩,
    ⟨(some 10), .nck (.t 9), none⟩,
    ⟨(some 11), .fld 0 (.t 10), none⟩,
    ⟨(some 12), .ld none (.t 11), none⟩,
    ⟨(some 13), .len false (.t 12), none⟩,
    ⟨(some 14), .mv (.c (.int .i64 0)), none⟩])
  (.block 0 (
    .loop b52_2)))
  k52_3

/-- (*reeve/nvm.Mem).Crash -/
def c52 : ACode :=
  .seq (.seq (.region [
    ⟨(some 5), .mv (.t 0), none⟩,
    ⟨(some 6), .nck (.t 5), none⟩,
    ⟨(some 7), .fld 1 (.t 6), none⟩,
    ⟨(some 8), .ld none (.t 7), none⟩])
  (.cond (.t 8)
    (.ret)
    (.skip)))
  k52_4
theorem ok52 : fnOk Try.prog 52 c52 34 [] = true := by kernel_rfl

/-- A part of reeve/nvm.From. -/
def k53_0 : ACode :=
  .region [
    ⟨(some 45), .mv (.t 8), none⟩,
    ⟨(some 46), .mv (.t 6), none⟩,
    ⟨(some 47), .bin .rem (.t 46) (.c (.int .i64 8)), none⟩,
    ⟨(some 48), .mv (.t 7), none⟩,
    ⟨(some 49), .nck (.t 45), none⟩,
    ⟨(some 50), .fld 0 (.t 49), none⟩,
    ⟨(some 51), .ixa 8 1 (.t 50) (.t 47), none⟩,
    ⟨none, .st 1 (.t 51) (.t 48), none⟩]

/-- A part of reeve/nvm.From. -/
def k53_1 : ACode :=
  .seq (.region [
    ⟨(some 38), .mv (.t 8), none⟩,
    ⟨(some 39), .mv (.t 6), none⟩,
    ⟨(some 40), .bin .rem (.t 39) (.c (.int .i64 8)), none⟩,
    ⟨(some 41), .mv (.t 7), none⟩,
    ⟨(some 42), .nck (.t 38), none⟩,
    ⟨(some 43), .fld 8 (.t 42), none⟩,
    ⟨(some 44), .ixa 8 1 (.t 43) (.t 40), none⟩,
    ⟨none, .st 1 (.t 44) (.t 41), none⟩])
  k53_0

/-- A part of reeve/nvm.From. -/
def k53_2 : ACode :=
  .seq (.region [
    ⟨(some 31), .mv (.t 4), none⟩,
    ⟨(some 32), .nck (.t 31), none⟩,
    ⟨(some 33), .fld 0 (.t 32), none⟩,
    ⟨(some 34), .ld none (.t 33), none⟩,
    ⟨(some 35), .mv (.t 6), none⟩,
    ⟨(some 36), .bin .quo (.t 35) (.c (.int .i64 8)), none⟩,
    ⟨(some 37), .ixs 18 (.t 34) (.t 36), none⟩,
    ⟨(some 8), .mv (.t 37), none⟩])
  k53_1

/-- A part of reeve/nvm.From. -/
def k53_3 : ACode :=
  .seq (.block 1 (
    .seq (.region [
      ⟨(some 28), .mv (.t 26), none⟩,
      ⟨(some 29), .ixs 1 (.t 24) (.t 26), none⟩,
      ⟨(some 30), .ld none (.t 29), none⟩,
      ⟨(some 6), .mv (.t 28), none⟩,
      ⟨(some 7), .mv (.t 30), none⟩])
    k53_2))
  (.region [
    ⟨(some 52), .bin .add (.t 26) (.c (.int .i64 1)), none⟩,
    ⟨(some 26), .mv (.t 52), none⟩])

/-- A part of reeve/nvm.From. -/
def b53_4 : ACode :=
  .seq (.region [
    ⟨(some 27), .bin .lss (.t 26) (.t 25), none⟩])
  (.seq (.cond (.t 27)
    (.skip)
    (.exit 0))
  k53_3)

/-- A part of reeve/nvm.From. -/
def k53_5 : ACode :=
  .seq (.seq (.region [
    ⟨(some 24), .mv (.t 0), none⟩,
    ⟨(some 25), .len false (.t 24), none⟩,
    ⟨(some 26), .mv (.c (.int .i64 0)), none⟩])
  (.block 0 (
    .loop b53_4)))
  (.seq (.region [
    ⟨(some 53), .mv (.t 4), none⟩,
    ⟨(some 2), .mv (.t 53), none⟩,
    ⟨(some 3), .mv (.c (.int .i64 0)), none⟩])
  (.ret))

/-- A part of reeve/nvm.From. -/
def k53_6 : ACode :=
  .seq (.seq (.region [
    ⟨(some 16), .mv (.t 5), none⟩,
    ⟨(some 17), .bin .neq (.t 16) (.c (.int .i64 0)), none⟩,
    ⟨(some 18), .mv (.t 17), none⟩,
    ⟨(some 19), .mv (.t 0), (some (18, false))⟩,
    ⟨(some 20), .len false (.t 19), (some (18, false))⟩,
    ⟨(some 21), .bin .rem (.t 20) (.c (.int .i64 8)), (some (18, false))⟩,
    ⟨(some 22), .bin .neq (.t 21) (.c (.int .i64 0)), (some (18, false))⟩,
    ⟨(some 23), .pick (.t 18) (.c (.bool true)) (.t 22), none⟩])
  (.cond (.t 23)
    (.seq (.region [
      ⟨(some 2), .mv (.c (.lit (.pointer none))), none⟩,
      ⟨(some 3), .mv (.c (.int .i64 1)), none⟩])
    (.ret))
    (.skip)))
  k53_5

/-- A part of reeve/nvm.From. -/
def k53_7 : ACode :=
  .seq (.region [
    ⟨(some 10), .mv (.t 0), none⟩,
    ⟨(some 11), .len false (.t 10), none⟩,
    ⟨(some 12), .bin .quo (.t 11) (.c (.int .i64 8)), none⟩,
    ⟨(some 13), .call 44 [(.t 12)], none⟩,
    ⟨(some 9), .mv (.t 13), none⟩,
    ⟨(some 14), .ext (.t 9) 0, none⟩,
    ⟨(some 15), .ext (.t 9) 1, none⟩,
    ⟨(some 4), .mv (.t 14), none⟩,
    ⟨(some 5), .mv (.t 15), none⟩])
  k53_6

/-- reeve/nvm.From -/
def c53 : ACode :=
  .seq (.region [
    ⟨(some 2), .mv (.c (.lit (.pointer none))), none⟩,
    ⟨(some 3), .mv (.c (.int .i64 0)), none⟩])
  k53_7
theorem ok53 : fnOk Try.prog 53 c53 54 [.t 2, .t 3] = true := by kernel_rfl

/-- (*reeve/nvm.Mem).Rows -/
def c54 : ACode :=
  .seq (.region [
    ⟨(some 2), .mv (.c (.int .i64 0)), none⟩])
  (.seq (.region [
    ⟨(some 3), .mv (.t 0), none⟩,
    ⟨(some 4), .nck (.t 3), none⟩,
    ⟨(some 5), .fld 0 (.t 4), none⟩,
    ⟨(some 6), .ld none (.t 5), none⟩,
    ⟨(some 7), .len false (.t 6), none⟩,
    ⟨(some 2), .mv (.t 7), none⟩])
  (.ret))
theorem ok54 : fnOk Try.prog 54 c54 8 [.t 2] = true := by kernel_rfl

/-- A part of reeve/reevelaw3.words. -/
def k55_0 : ACode :=
  .seq (.block 1 (
    .seq (.drawn [
      ⟨(some 17), .mv (.t 0), none⟩,
      ⟨(some 18), .mv (.t 5), none⟩,
      ⟨(some 19), .ixs 1 (.t 17) (.t 18), none⟩,
      ⟨(some 20), .ld none (.t 19), none⟩,
      ⟨(some 21), .mv (.t 1), none⟩,
      ⟨(some 22), .mv (.t 5), none⟩,
      ⟨(some 23), .ixs 1 (.t 21) (.t 22), none⟩,
      ⟨(some 24), .ld none (.t 23), none⟩,
      ⟨(some 25), .bin .neq (.t 20) (.t 24), none⟩]
    [[], [], [0, 1], [2], [], [], [4, 5], [6], [3, 7]]
    [0, 1, 2, 3, 4, 5, 6, 7, 8])
    (.cond (.t 25)
      (.seq (.region [
        ⟨(some 4), .mv (.c (.bool false)), none⟩])
      (.ret))
      (.skip))))
  (.region [
    ⟨(some 15), .mv (.t 5), none⟩,
    ⟨(some 16), .bin .add (.t 15) (.c (.int .i64 1)), none⟩,
    ⟨(some 5), .mv (.t 16), none⟩])

/-- A part of reeve/reevelaw3.words. -/
def b55_1 : ACode :=
  .seq (.seq (.region [
    ⟨(some 11), .mv (.t 5), none⟩,
    ⟨(some 12), .mv (.t 0), none⟩,
    ⟨(some 13), .len false (.t 12), none⟩,
    ⟨(some 14), .bin .lss (.t 11) (.t 13), none⟩])
  (.cond (.t 14)
    (.skip)
    (.exit 0)))
  k55_0

/-- A part of reeve/reevelaw3.words. -/
def k55_2 : ACode :=
  .seq (.seq (.region [
    ⟨(some 6), .mv (.t 0), none⟩,
    ⟨(some 7), .len false (.t 6), none⟩,
    ⟨(some 8), .mv (.t 1), none⟩,
    ⟨(some 9), .len false (.t 8), none⟩,
    ⟨(some 10), .bin .neq (.t 7) (.t 9), none⟩])
  (.cond (.t 10)
    (.seq (.region [
      ⟨(some 4), .mv (.c (.bool false)), none⟩])
    (.ret))
    (.skip)))
  (.seq (.seq (.region [
    ⟨(some 5), .mv (.c (.int .i64 0)), none⟩])
  (.block 0 (
    .loop b55_1)))
  (.seq (.region [
    ⟨(some 4), .mv (.c (.bool true)), none⟩])
  (.ret)))

/-- reeve/reevelaw3.words -/
def c55 : ACode :=
  .seq (.region [
    ⟨(some 4), .mv (.c (.bool false)), none⟩])
  k55_2
theorem ok55 : fnOk Try.prog 55 c55 26 [.t 4] = true := by kernel_rfl

/-- (*reeve/nvm.Mem).Count -/
def c56 : ACode :=
  .seq (.region [
    ⟨(some 2), .mv (.c (.int .i64 0)), none⟩])
  (.seq (.region [
    ⟨(some 3), .mv (.t 0), none⟩,
    ⟨(some 4), .nck (.t 3), none⟩,
    ⟨(some 5), .fld 2 (.t 4), none⟩,
    ⟨(some 6), .ld none (.t 5), none⟩,
    ⟨(some 2), .mv (.t 6), none⟩])
  (.ret))
theorem ok56 : fnOk Try.prog 56 c56 7 [.t 2] = true := by kernel_rfl

/-- (*reeve/nvm.Mem).Off -/
def c57 : ACode :=
  .seq (.region [
    ⟨(some 2), .mv (.c (.bool false)), none⟩])
  (.seq (.region [
    ⟨(some 3), .mv (.t 0), none⟩,
    ⟨(some 4), .nck (.t 3), none⟩,
    ⟨(some 5), .fld 1 (.t 4), none⟩,
    ⟨(some 6), .ld none (.t 5), none⟩,
    ⟨(some 2), .mv (.t 6), none⟩])
  (.ret))
theorem ok57 : fnOk Try.prog 57 c57 7 [.t 2] = true := by kernel_rfl

/-- A part of reeve/reeveref1.NewMem. -/
def k58_0 : ACode :=
  .seq (.region [
    ⟨(some 9), .mv (.t 0), none⟩,
    ⟨(some 10), .mks 18 136 [.int .u64 0, .int .u64 0, .int .u64 0, .int .u64 0, .int .u64 0, .int .u64 0, .int .u64 0, .int .u64 0, .int .u64 0, .int .u64 0, .int .u64 0, .int .u64 0, .int .u64 0, .int .u64 0, .int .u64 0, .int .u64 0, .bool false, .bool false] (.t 9) (.t 9), none⟩,
    ⟨(some 11), .build [.lit (.slice none 0 0), .bool false, .int .i64 0, .int .i64 0, .lit (.slice none 0 0)] [(0, 1, (.t 10))], none⟩,
    ⟨(some 12), .box (.t 11), none⟩,
    ⟨(some 2), .mv (.t 12), none⟩])
  (.ret)

/-- A part of reeve/reeveref1.NewMem. -/
def k58_1 : ACode :=
  .seq (.seq (.region [
    ⟨(some 3), .mv (.t 0), none⟩,
    ⟨(some 4), .bin .lss (.t 3) (.c (.int .i64 1)), none⟩,
    ⟨(some 5), .mv (.t 4), none⟩,
    ⟨(some 6), .mv (.t 0), (some (5, false))⟩,
    ⟨(some 7), .bin .gtr (.t 6) (.c (.int .i64 4096)), (some (5, false))⟩,
    ⟨(some 8), .pick (.t 5) (.c (.bool true)) (.t 7), none⟩])
  (.cond (.t 8)
    (.seq (.region [
      ⟨(some 2), .mv (.c (.lit (.pointer none))), none⟩])
    (.ret))
    (.skip)))
  k58_0

/-- reeve/reeveref1.NewMem -/
def c58 : ACode :=
  .seq (.region [
    ⟨(some 2), .mv (.c (.lit (.pointer none))), none⟩])
  k58_1
theorem ok58 : fnOk Try.prog 58 c58 13 [.t 2] = true := by kernel_rfl

/-- A part of (*reeve/reeveref1.Mem).Store. -/
def k59_0 : ACode :=
  .seq (.region [
    ⟨(some 23), .mv (.t 0), none⟩,
    ⟨(some 24), .nck (.t 23), none⟩,
    ⟨(some 25), .fld 0 (.t 24), none⟩,
    ⟨(some 26), .ld none (.t 25), none⟩,
    ⟨(some 27), .mv (.t 1), none⟩,
    ⟨(some 28), .bin .quo (.t 27) (.c (.int .i64 8)), none⟩,
    ⟨(some 29), .ixs 18 (.t 26) (.t 28), none⟩,
    ⟨(some 30), .mv (.t 1), none⟩,
    ⟨(some 31), .bin .rem (.t 30) (.c (.int .i64 8)), none⟩,
    ⟨(some 32), .mv (.t 2), none⟩,
    ⟨(some 33), .call 28 [(.t 29), (.t 31), (.t 32)], none⟩])
  (.seq (.region [
    ⟨(some 6), .mv (.c (.int .i64 0)), none⟩])
  (.ret))

/-- A part of (*reeve/reeveref1.Mem).Store. -/
def k59_1 : ACode :=
  .seq (.seq (.region [
    ⟨(some 20), .mv (.t 0), none⟩,
    ⟨(some 21), .call 80 [(.t 20)], none⟩,
    ⟨(some 22), .un .not (.t 21), none⟩])
  (.cond (.t 22)
    (.seq (.region [
      ⟨(some 6), .mv (.c (.int .i64 12)), none⟩])
    (.ret))
    (.skip)))
  k59_0

/-- A part of (*reeve/reeveref1.Mem).Store. -/
def k59_2 : ACode :=
  .seq (.seq (.region [
    ⟨(some 17), .mv (.t 7), none⟩,
    ⟨(some 18), .bin .neq (.t 17) (.c (.int .i64 0)), none⟩])
  (.cond (.t 18)
    (.seq (.region [
      ⟨(some 19), .mv (.t 7), none⟩,
      ⟨(some 6), .mv (.t 19), none⟩])
    (.ret))
    (.skip)))
  k59_1

/-- A part of (*reeve/reeveref1.Mem).Store. -/
def k59_3 : ACode :=
  .seq (.region [
    ⟨(some 8), .mv (.t 0), none⟩,
    ⟨(some 9), .mv (.t 1), none⟩,
    ⟨(some 10), .mv (.t 0), none⟩,
    ⟨(some 11), .nck (.t 10), none⟩,
    ⟨(some 12), .fld 0 (.t 11), none⟩,
    ⟨(some 13), .ld none (.t 12), none⟩,
    ⟨(some 14), .len false (.t 13), none⟩,
    ⟨(some 15), .bin .mul (.c (.int .i64 8)) (.t 14), none⟩,
    ⟨(some 16), .call 79 [(.t 8), (.t 9), (.t 15)], none⟩,
    ⟨(some 7), .mv (.t 16), none⟩])
  k59_2

/-- (*reeve/reeveref1.Mem).Store -/
def c59 : ACode :=
  .seq (.region [
    ⟨(some 6), .mv (.c (.int .i64 0)), none⟩])
  k59_3
theorem ok59 : fnOk Try.prog 59 c59 34 [.t 6] = true := by kernel_rfl

/-- A part of (*reeve/reeveref1.Mem).Swap. -/
def k60_0 : ACode :=
  .seq (.region [
    ⟨(some 26), .mv (.t 0), none⟩,
    ⟨(some 27), .mv (.t 1), none⟩,
    ⟨(some 28), .mv (.t 3), none⟩,
    ⟨(some 29), .call 59 [(.t 26), (.t 27), (.t 28)], none⟩,
    ⟨(some 11), .mv (.t 29), none⟩])
  (.seq (.region [
    ⟨(some 30), .mv (.t 11), none⟩,
    ⟨(some 31), .bin .eql (.t 30) (.c (.int .i64 0)), none⟩,
    ⟨(some 32), .mv (.t 11), none⟩,
    ⟨(some 8), .mv (.t 31), none⟩,
    ⟨(some 9), .mv (.t 32), none⟩])
  (.ret))

/-- A part of (*reeve/reeveref1.Mem).Swap. -/
def k60_1 : ACode :=
  .seq (.seq (.region [
    ⟨(some 18), .mv (.t 11), none⟩,
    ⟨(some 19), .bin .neq (.t 18) (.c (.int .i64 0)), none⟩,
    ⟨(some 20), .mv (.t 19), none⟩,
    ⟨(some 21), .mv (.t 10), (some (20, false))⟩,
    ⟨(some 22), .mv (.t 2), (some (20, false))⟩,
    ⟨(some 23), .bin .neq (.t 21) (.t 22), (some (20, false))⟩,
    ⟨(some 24), .pick (.t 20) (.c (.bool true)) (.t 23), none⟩])
  (.cond (.t 24)
    (.seq (.region [
      ⟨(some 25), .mv (.t 11), none⟩,
      ⟨(some 8), .mv (.c (.bool false)), none⟩,
      ⟨(some 9), .mv (.t 25), none⟩])
    (.ret))
    (.skip)))
  k60_0

/-- A part of (*reeve/reeveref1.Mem).Swap. -/
def k60_2 : ACode :=
  .seq (.region [
    ⟨(some 13), .mv (.t 0), none⟩,
    ⟨(some 14), .mv (.t 1), none⟩,
    ⟨(some 15), .call 69 [(.t 13), (.t 14)], none⟩,
    ⟨(some 12), .mv (.t 15), none⟩,
    ⟨(some 16), .ext (.t 12) 0, none⟩,
    ⟨(some 17), .ext (.t 12) 1, none⟩,
    ⟨(some 10), .mv (.t 16), none⟩,
    ⟨(some 11), .mv (.t 17), none⟩])
  k60_1

/-- (*reeve/reeveref1.Mem).Swap -/
def c60 : ACode :=
  .seq (.region [
    ⟨(some 8), .mv (.c (.bool false)), none⟩,
    ⟨(some 9), .mv (.c (.int .i64 0)), none⟩])
  k60_2
theorem ok60 : fnOk Try.prog 60 c60 33 [.t 8, .t 9] = true := by kernel_rfl

/-- A part of (*reeve/reeveref1.Mem).Flush. -/
def k61_0 : ACode :=
  .seq (.region [
    ⟨(some 20), .mv (.t 0), none⟩,
    ⟨(some 21), .nck (.t 20), none⟩,
    ⟨(some 22), .fld 0 (.t 21), none⟩,
    ⟨(some 23), .ld none (.t 22), none⟩,
    ⟨(some 24), .mv (.t 1), none⟩,
    ⟨(some 25), .ixs 18 (.t 23) (.t 24), none⟩,
    ⟨(some 26), .call 29 [(.t 25)], none⟩])
  (.seq (.region [
    ⟨(some 4), .mv (.c (.int .i64 0)), none⟩])
  (.ret))

/-- A part of (*reeve/reeveref1.Mem).Flush. -/
def k61_1 : ACode :=
  .seq (.seq (.region [
    ⟨(some 17), .mv (.t 0), none⟩,
    ⟨(some 18), .call 80 [(.t 17)], none⟩,
    ⟨(some 19), .un .not (.t 18), none⟩])
  (.cond (.t 19)
    (.seq (.region [
      ⟨(some 4), .mv (.c (.int .i64 12)), none⟩])
    (.ret))
    (.skip)))
  k61_0

/-- A part of (*reeve/reeveref1.Mem).Flush. -/
def k61_2 : ACode :=
  .seq (.seq (.region [
    ⟨(some 14), .mv (.t 5), none⟩,
    ⟨(some 15), .bin .neq (.t 14) (.c (.int .i64 0)), none⟩])
  (.cond (.t 15)
    (.seq (.region [
      ⟨(some 16), .mv (.t 5), none⟩,
      ⟨(some 4), .mv (.t 16), none⟩])
    (.ret))
    (.skip)))
  k61_1

/-- A part of (*reeve/reeveref1.Mem).Flush. -/
def k61_3 : ACode :=
  .seq (.region [
    ⟨(some 6), .mv (.t 0), none⟩,
    ⟨(some 7), .mv (.t 1), none⟩,
    ⟨(some 8), .mv (.t 0), none⟩,
    ⟨(some 9), .nck (.t 8), none⟩,
    ⟨(some 10), .fld 0 (.t 9), none⟩,
    ⟨(some 11), .ld none (.t 10), none⟩,
    ⟨(some 12), .len false (.t 11), none⟩,
    ⟨(some 13), .call 79 [(.t 6), (.t 7), (.t 12)], none⟩,
    ⟨(some 5), .mv (.t 13), none⟩])
  k61_2

/-- (*reeve/reeveref1.Mem).Flush -/
def c61 : ACode :=
  .seq (.region [
    ⟨(some 4), .mv (.c (.int .i64 0)), none⟩])
  k61_3
theorem ok61 : fnOk Try.prog 61 c61 27 [.t 4] = true := by kernel_rfl

/-- A part of (*reeve/reeveref1.Mem).Fence. -/
def k62_0 : ACode :=
  .seq (.block 1 (
    .region [
      ⟨(some 22), .mv (.t 0), none⟩,
      ⟨(some 23), .nck (.t 22), none⟩,
      ⟨(some 24), .fld 0 (.t 23), none⟩,
      ⟨(some 25), .ld none (.t 24), none⟩,
      ⟨(some 26), .mv (.t 3), none⟩,
      ⟨(some 27), .ixs 18 (.t 25) (.t 26), none⟩,
      ⟨(some 28), .call 30 [(.t 27)], none⟩]))
  (.region [
    ⟨(some 20), .mv (.t 3), none⟩,
    ⟨(some 21), .bin .add (.t 20) (.c (.int .i64 1)), none⟩,
    ⟨(some 3), .mv (.t 21), none⟩])

/-- A part of (*reeve/reeveref1.Mem).Fence. -/
def b62_1 : ACode :=
  .seq (.seq (.region [
    ⟨(some 13), .mv (.t 3), none⟩,
    ⟨(some 14), .mv (.t 0), none⟩,
    ⟨(some 15), .nck (.t 14), none⟩,
    ⟨(some 16), .fld 0 (.t 15), none⟩,
    ⟨(some 17), .ld none (.t 16), none⟩,
    ⟨(some 18), .len false (.t 17), none⟩,
    ⟨(some 19), .bin .lss (.t 13) (.t 18), none⟩])
  (.cond (.t 19)
    (.skip)
    (.exit 0)))
  k62_0

/-- A part of (*reeve/reeveref1.Mem).Fence. -/
def k62_2 : ACode :=
  .seq (.seq (.region [
    ⟨(some 4), .mv (.t 0), none⟩,
    ⟨(some 5), .nck (.t 4), none⟩,
    ⟨(some 6), .fld 1 (.t 5), none⟩,
    ⟨(some 7), .ld none (.t 6), none⟩,
    ⟨(some 8), .mv (.t 7), none⟩,
    ⟨(some 9), .mv (.t 0), (some (8, false))⟩,
    ⟨(some 10), .call 80 [(.t 9)], (some (8, false))⟩,
    ⟨(some 11), .un .not (.t 10), (some (8, false))⟩,
    ⟨(some 12), .pick (.t 8) (.c (.bool true)) (.t 11), none⟩])
  (.cond (.t 12)
    (.seq (.region [
      ⟨(some 2), .mv (.c (.int .i64 12)), none⟩])
    (.ret))
    (.skip)))
  (.seq (.seq (.region [
    ⟨(some 3), .mv (.c (.int .i64 0)), none⟩])
  (.block 0 (
    .loop b62_1)))
  (.seq (.region [
    ⟨(some 2), .mv (.c (.int .i64 0)), none⟩])
  (.ret)))

/-- (*reeve/reeveref1.Mem).Fence -/
def c62 : ACode :=
  .seq (.region [
    ⟨(some 2), .mv (.c (.int .i64 0)), none⟩])
  k62_2
theorem ok62 : fnOk Try.prog 62 c62 29 [.t 2] = true := by kernel_rfl

/-- A part of (*reeve/nvm.Mem).Evict. -/
def k63_0 : ACode :=
  .seq (.region [
    ⟨(some 17), .mv (.t 0), none⟩,
    ⟨(some 18), .nck (.t 17), none⟩,
    ⟨(some 19), .fld 0 (.t 18), none⟩,
    ⟨(some 20), .ld none (.t 19), none⟩,
    ⟨(some 21), .mv (.t 1), none⟩,
    ⟨(some 22), .ixs 18 (.t 20) (.t 21), none⟩,
    ⟨(some 23), .call 26 [(.t 22)], none⟩])
  (.seq (.region [
    ⟨(some 4), .mv (.c (.int .i64 0)), none⟩])
  (.ret))

/-- A part of (*reeve/nvm.Mem).Evict. -/
def k63_1 : ACode :=
  .seq (.seq (.region [
    ⟨(some 6), .mv (.t 0), none⟩,
    ⟨(some 7), .mv (.t 1), none⟩,
    ⟨(some 8), .mv (.t 0), none⟩,
    ⟨(some 9), .nck (.t 8), none⟩,
    ⟨(some 10), .fld 0 (.t 9), none⟩,
    ⟨(some 11), .ld none (.t 10), none⟩,
    ⟨(some 12), .len false (.t 11), none⟩,
    ⟨(some 13), .call 76 [(.t 6), (.t 7), (.t 12)], none⟩,
    ⟨(some 5), .mv (.t 13), none⟩])
  (.seq (.region [
    ⟨(some 14), .mv (.t 5), none⟩,
    ⟨(some 15), .bin .neq (.t 14) (.c (.int .i64 0)), none⟩])
  (.cond (.t 15)
    (.seq (.region [
      ⟨(some 16), .mv (.t 5), none⟩,
      ⟨(some 4), .mv (.t 16), none⟩])
    (.ret))
    (.skip))))
  k63_0

/-- (*reeve/nvm.Mem).Evict -/
def c63 : ACode :=
  .seq (.region [
    ⟨(some 4), .mv (.c (.int .i64 0)), none⟩])
  k63_1
theorem ok63 : fnOk Try.prog 63 c63 24 [.t 4] = true := by kernel_rfl

/-- A part of (*reeve/reeveref1.Mem).Evict. -/
def k64_0 : ACode :=
  .seq (.region [
    ⟨(some 17), .mv (.t 0), none⟩,
    ⟨(some 18), .nck (.t 17), none⟩,
    ⟨(some 19), .fld 0 (.t 18), none⟩,
    ⟨(some 20), .ld none (.t 19), none⟩,
    ⟨(some 21), .mv (.t 1), none⟩,
    ⟨(some 22), .ixs 18 (.t 20) (.t 21), none⟩,
    ⟨(some 23), .call 31 [(.t 22)], none⟩])
  (.seq (.region [
    ⟨(some 4), .mv (.c (.int .i64 0)), none⟩])
  (.ret))

/-- A part of (*reeve/reeveref1.Mem).Evict. -/
def k64_1 : ACode :=
  .seq (.seq (.region [
    ⟨(some 14), .mv (.t 5), none⟩,
    ⟨(some 15), .bin .neq (.t 14) (.c (.int .i64 0)), none⟩])
  (.cond (.t 15)
    (.seq (.region [
      ⟨(some 16), .mv (.t 5), none⟩,
      ⟨(some 4), .mv (.t 16), none⟩])
    (.ret))
    (.skip)))
  k64_0

/-- A part of (*reeve/reeveref1.Mem).Evict. -/
def k64_2 : ACode :=
  .seq (.region [
    ⟨(some 6), .mv (.t 0), none⟩,
    ⟨(some 7), .mv (.t 1), none⟩,
    ⟨(some 8), .mv (.t 0), none⟩,
    ⟨(some 9), .nck (.t 8), none⟩,
    ⟨(some 10), .fld 0 (.t 9), none⟩,
    ⟨(some 11), .ld none (.t 10), none⟩,
    ⟨(some 12), .len false (.t 11), none⟩,
    ⟨(some 13), .call 79 [(.t 6), (.t 7), (.t 12)], none⟩,
    ⟨(some 5), .mv (.t 13), none⟩])
  k64_1

/-- (*reeve/reeveref1.Mem).Evict -/
def c64 : ACode :=
  .seq (.region [
    ⟨(some 4), .mv (.c (.int .i64 0)), none⟩])
  k64_2
theorem ok64 : fnOk Try.prog 64 c64 24 [.t 4] = true := by kernel_rfl

/-- A part of (*reeve/reeveref1.Mem).Crash. -/
def k65_0 : ACode :=
  .seq (.block 3 (
    .region [
      ⟨(some 26), .mv (.t 5), none⟩,
      ⟨(some 27), .mv (.t 26), none⟩,
      ⟨(some 28), .mv (.t 1), (some (27, false))⟩,
      ⟨(some 29), .mv (.t 6), (some (27, false))⟩,
      ⟨(some 30), .ixs 1 (.t 28) (.t 29), (some (27, false))⟩,
      ⟨(some 31), .ld none (.t 30), (some (27, false))⟩,
      ⟨(some 32), .mv (.t 4), (some (27, false))⟩,
      ⟨(some 33), .bin .eql (.t 31) (.t 32), (some (27, false))⟩,
      ⟨(some 34), .pick (.t 27) (.c (.bool true)) (.t 33), none⟩,
      ⟨(some 5), .mv (.t 34), none⟩]))
  (.region [
    ⟨(some 24), .mv (.t 6), none⟩,
    ⟨(some 25), .bin .add (.t 24) (.c (.int .i64 1)), none⟩,
    ⟨(some 6), .mv (.t 25), none⟩])

/-- A part of (*reeve/reeveref1.Mem).Crash. -/
def b65_1 : ACode :=
  .seq (.seq (.region [
    ⟨(some 20), .mv (.t 6), none⟩,
    ⟨(some 21), .mv (.t 1), none⟩,
    ⟨(some 22), .len false (.t 21), none⟩,
    ⟨(some 23), .bin .lss (.t 20) (.t 22), none⟩])
  (.cond (.t 23)
    (.skip)
    (.exit 2)))
  k65_0

/-- A part of (*reeve/reeveref1.Mem).Crash. -/
def k65_2 : ACode :=
  .region [
    ⟨(some 35), .mv (.t 0), none⟩,
    ⟨(some 36), .nck (.t 35), none⟩,
    ⟨(some 37), .fld 0 (.t 36), none⟩,
    ⟨(some 38), .ld none (.t 37), none⟩,
    ⟨(some 39), .mv (.t 4), none⟩,
    ⟨(some 40), .ixs 18 (.t 38) (.t 39), none⟩,
    ⟨(some 41), .mv (.t 5), none⟩,
    ⟨(some 42), .call 32 [(.t 40), (.t 41)], none⟩]

/-- A part of (*reeve/reeveref1.Mem).Crash. -/
def k65_3 : ACode :=
  .seq (.block 1 (
    .seq (.region [
      ⟨(some 5), .mv (.c (.bool false)), none⟩])
    (.seq (.seq (.region [
      ⟨(some 6), .mv (.c (.int .i64 0)), none⟩])
    (.block 2 (
      .loop b65_1)))
    k65_2)))
  (.region [
    ⟨(some 18), .mv (.t 4), none⟩,
    ⟨(some 19), .bin .add (.t 18) (.c (.int .i64 1)), none⟩,
    ⟨(some 4), .mv (.t 19), none⟩])

/-- A part of (*reeve/reeveref1.Mem).Crash. -/
def b65_4 : ACode :=
  .seq (.seq (.region [
    ⟨(some 11), .mv (.t 4), none⟩,
    ⟨(some 12), .mv (.t 0), none⟩,
    ⟨(some 13), .nck (.t 12), none⟩,
    ⟨(some 14), .fld 0 (.t 13), none⟩,
    ⟨(some 15), .ld none (.t 14), none⟩,
    ⟨(some 16), .len false (.t 15), none⟩,
    ⟨(some 17), .bin .lss (.t 11) (.t 16), none⟩])
  (.cond (.t 17)
    (.skip)
    (.exit 0)))
  k65_3

/-- A part of (*reeve/reeveref1.Mem).Crash. -/
def k65_5 : ACode :=
  .region [
    ⟨(some 43), .mv (.t 0), none⟩,
    ⟨(some 44), .mv (.t 0), none⟩,
    ⟨(some 45), .nck (.t 43), none⟩,
    ⟨(some 46), .fld 1 (.t 45), none⟩,
    ⟨none, .st 1 (.t 46) (.c (.bool true)), none⟩,
    ⟨(some 47), .nck (.t 44), none⟩,
    ⟨(some 48), .fld 3 (.t 47), none⟩,
    ⟨none, .st 1 (.t 48) (.c (.int .i64 0)), none⟩]

/-- (*reeve/reeveref1.Mem).Crash -/
def c65 : ACode :=
  .seq (.seq (.region [
    ⟨(some 7), .mv (.t 0), none⟩,
    ⟨(some 8), .nck (.t 7), none⟩,
    ⟨(some 9), .fld 1 (.t 8), none⟩,
    ⟨(some 10), .ld none (.t 9), none⟩])
  (.cond (.t 10)
    (.ret)
    (.skip)))
  (.seq (.seq (.region [
    ⟨(some 4), .mv (.c (.int .i64 0)), none⟩])
  (.block 0 (
    .loop b65_4)))
  k65_5)
theorem ok65 : fnOk Try.prog 65 c65 49 [] = true := by kernel_rfl

/-- (*reeve/nvm.Mem).On -/
def c66 : ACode :=
  .region [
    ⟨(some 2), .mv (.t 0), none⟩,
    ⟨(some 3), .nck (.t 2), none⟩,
    ⟨(some 4), .fld 1 (.t 3), none⟩,
    ⟨none, .st 1 (.t 4) (.c (.bool false)), none⟩]
theorem ok66 : fnOk Try.prog 66 c66 5 [] = true := by kernel_rfl

/-- A part of (*reeve/nvm.Mem).Fuse. -/
def k67_0 : ACode :=
  .seq (.region [
    ⟨(some 10), .mv (.t 0), none⟩,
    ⟨(some 11), .mv (.t 1), none⟩,
    ⟨(some 12), .mxn true [(.t 11), (.c (.int .i64 0))], none⟩,
    ⟨(some 13), .nck (.t 10), none⟩,
    ⟨(some 14), .fld 3 (.t 13), none⟩,
    ⟨none, .st 1 (.t 14) (.t 12), none⟩])
  (.region [
    ⟨(some 15), .mv (.t 0), none⟩,
    ⟨(some 16), .mv (.t 2), none⟩,
    ⟨(some 17), .call 81 [(.t 16)], none⟩,
    ⟨(some 18), .nck (.t 15), none⟩,
    ⟨(some 19), .fld 4 (.t 18), none⟩,
    ⟨none, .st 1 (.t 19) (.t 17), none⟩])

/-- (*reeve/nvm.Mem).Fuse -/
def c67 : ACode :=
  .seq (.seq (.region [
    ⟨(some 6), .mv (.t 0), none⟩,
    ⟨(some 7), .nck (.t 6), none⟩,
    ⟨(some 8), .fld 1 (.t 7), none⟩,
    ⟨(some 9), .ld none (.t 8), none⟩])
  (.cond (.t 9)
    (.ret)
    (.skip)))
  k67_0
theorem ok67 : fnOk Try.prog 67 c67 20 [] = true := by kernel_rfl

/-- A part of (*reeve/reeveref1.Mem).Fuse. -/
def k68_0 : ACode :=
  .region [
    ⟨(some 11), .mv (.t 0), none⟩,
    ⟨(some 12), .mv (.t 0), none⟩,
    ⟨(some 13), .mv (.t 1), none⟩,
    ⟨(some 14), .bsl 1 0 [.int .i64 0] [], none⟩,
    ⟨(some 15), .mv (.t 2), none⟩,
    ⟨(some 16), .app 1 8 (.t 14) (.t 15), none⟩,
    ⟨(some 17), .nck (.t 11), none⟩,
    ⟨(some 18), .fld 3 (.t 17), none⟩,
    ⟨none, .st 1 (.t 18) (.t 13), none⟩,
    ⟨(some 19), .nck (.t 12), none⟩,
    ⟨(some 20), .fld 4 (.t 19), none⟩,
    ⟨none, .st 1 (.t 20) (.t 16), none⟩]

/-- (*reeve/reeveref1.Mem).Fuse -/
def c68 : ACode :=
  .seq (.region [
    ⟨(some 6), .mv (.t 0), none⟩,
    ⟨(some 7), .nck (.t 6), none⟩,
    ⟨(some 8), .fld 1 (.t 7), none⟩,
    ⟨(some 9), .ld none (.t 8), none⟩,
    ⟨(some 10), .un .not (.t 9), none⟩])
  (.cond (.t 10)
    k68_0
    (.skip))
theorem ok68 : fnOk Try.prog 68 c68 21 [] = true := by kernel_rfl

/-- A part of (*reeve/reeveref1.Mem).Load. -/
def k69_0 : ACode :=
  .seq (.region [
    ⟨(some 19), .mv (.t 0), none⟩,
    ⟨(some 20), .nck (.t 19), none⟩,
    ⟨(some 21), .fld 0 (.t 20), none⟩,
    ⟨(some 22), .ld none (.t 21), none⟩,
    ⟨(some 23), .mv (.t 1), none⟩,
    ⟨(some 24), .bin .quo (.t 23) (.c (.int .i64 8)), none⟩,
    ⟨(some 25), .mv (.t 1), none⟩,
    ⟨(some 26), .bin .rem (.t 25) (.c (.int .i64 8)), none⟩,
    ⟨(some 27), .ixs 18 (.t 22) (.t 24), none⟩,
    ⟨(some 28), .fld 8 (.t 27), none⟩,
    ⟨(some 29), .ixa 8 1 (.t 28) (.t 26), none⟩,
    ⟨(some 30), .ld none (.t 29), none⟩,
    ⟨(some 4), .mv (.t 30), none⟩,
    ⟨(some 5), .mv (.c (.int .i64 0)), none⟩])
  (.ret)

/-- A part of (*reeve/reeveref1.Mem).Load. -/
def k69_1 : ACode :=
  .seq (.seq (.region [
    ⟨(some 16), .mv (.t 6), none⟩,
    ⟨(some 17), .bin .neq (.t 16) (.c (.int .i64 0)), none⟩])
  (.cond (.t 17)
    (.seq (.region [
      ⟨(some 18), .mv (.t 6), none⟩,
      ⟨(some 4), .mv (.c (.int .u64 0)), none⟩,
      ⟨(some 5), .mv (.t 18), none⟩])
    (.ret))
    (.skip)))
  k69_0

/-- A part of (*reeve/reeveref1.Mem).Load. -/
def k69_2 : ACode :=
  .seq (.region [
    ⟨(some 7), .mv (.t 0), none⟩,
    ⟨(some 8), .mv (.t 1), none⟩,
    ⟨(some 9), .mv (.t 0), none⟩,
    ⟨(some 10), .nck (.t 9), none⟩,
    ⟨(some 11), .fld 0 (.t 10), none⟩,
    ⟨(some 12), .ld none (.t 11), none⟩,
    ⟨(some 13), .len false (.t 12), none⟩,
    ⟨(some 14), .bin .mul (.c (.int .i64 8)) (.t 13), none⟩,
    ⟨(some 15), .call 79 [(.t 7), (.t 8), (.t 14)], none⟩,
    ⟨(some 6), .mv (.t 15), none⟩])
  k69_1

/-- (*reeve/reeveref1.Mem).Load -/
def c69 : ACode :=
  .seq (.region [
    ⟨(some 4), .mv (.c (.int .u64 0)), none⟩,
    ⟨(some 5), .mv (.c (.int .i64 0)), none⟩])
  k69_2
theorem ok69 : fnOk Try.prog 69 c69 31 [.t 4, .t 5] = true := by kernel_rfl

/-- A part of (*reeve/reeveref1.Mem).Words. -/
def k70_0 : ACode :=
  .seq (.block 3 (
    .region [
      ⟨(some 19), .mv (.t 3), none⟩,
      ⟨(some 20), .mv (.t 0), none⟩,
      ⟨(some 21), .nck (.t 20), none⟩,
      ⟨(some 22), .fld 0 (.t 21), none⟩,
      ⟨(some 23), .ld none (.t 22), none⟩,
      ⟨(some 24), .mv (.t 4), none⟩,
      ⟨(some 25), .mv (.t 5), none⟩,
      ⟨(some 26), .ixs 18 (.t 23) (.t 24), none⟩,
      ⟨(some 27), .fld 8 (.t 26), none⟩,
      ⟨(some 28), .ixa 8 1 (.t 27) (.t 25), none⟩,
      ⟨(some 29), .ld none (.t 28), none⟩,
      ⟨(some 30), .bsl 1 1 [.int .u64 0] [(0, (.t 29))], none⟩,
      ⟨(some 31), .app 1 8 (.t 19) (.t 30), none⟩,
      ⟨(some 3), .mv (.t 31), none⟩]))
  (.region [
    ⟨(some 17), .mv (.t 5), none⟩,
    ⟨(some 18), .bin .add (.t 17) (.c (.int .i64 1)), none⟩,
    ⟨(some 5), .mv (.t 18), none⟩])

/-- A part of (*reeve/reeveref1.Mem).Words. -/
def b70_1 : ACode :=
  .seq (.seq (.region [
    ⟨(some 15), .mv (.t 5), none⟩,
    ⟨(some 16), .bin .lss (.t 15) (.c (.int .i64 8)), none⟩])
  (.cond (.t 16)
    (.skip)
    (.exit 2)))
  k70_0

/-- A part of (*reeve/reeveref1.Mem).Words. -/
def k70_2 : ACode :=
  .seq (.block 1 (
    .seq (.region [
      ⟨(some 5), .mv (.c (.int .i64 0)), none⟩])
    (.block 2 (
      .loop b70_1))))
  (.region [
    ⟨(some 13), .mv (.t 4), none⟩,
    ⟨(some 14), .bin .add (.t 13) (.c (.int .i64 1)), none⟩,
    ⟨(some 4), .mv (.t 14), none⟩])

/-- A part of (*reeve/reeveref1.Mem).Words. -/
def b70_3 : ACode :=
  .seq (.seq (.region [
    ⟨(some 6), .mv (.t 4), none⟩,
    ⟨(some 7), .mv (.t 0), none⟩,
    ⟨(some 8), .nck (.t 7), none⟩,
    ⟨(some 9), .fld 0 (.t 8), none⟩,
    ⟨(some 10), .ld none (.t 9), none⟩,
    ⟨(some 11), .len false (.t 10), none⟩,
    ⟨(some 12), .bin .lss (.t 6) (.t 11), none⟩])
  (.cond (.t 12)
    (.skip)
    (.exit 0)))
  k70_2

/-- A part of (*reeve/reeveref1.Mem).Words. -/
def k70_4 : ACode :=
  .seq (.region [
    ⟨(some 3), .mv (.c (.lit (.slice none 0 0))), none⟩])
  (.seq (.seq (.region [
    ⟨(some 4), .mv (.c (.int .i64 0)), none⟩])
  (.block 0 (
    .loop b70_3)))
  (.seq (.region [
    ⟨(some 32), .mv (.t 3), none⟩,
    ⟨(some 2), .mv (.t 32), none⟩])
  (.ret)))

/-- (*reeve/reeveref1.Mem).Words -/
def c70 : ACode :=
  .seq (.region [
    ⟨(some 2), .mv (.c (.lit (.slice none 0 0))), none⟩])
  k70_4
theorem ok70 : fnOk Try.prog 70 c70 33 [.t 2] = true := by kernel_rfl

/-- A part of reeve/reevelaw3.ints. -/
def k71_0 : ACode :=
  .seq (.block 1 (
    .seq (.drawn [
      ⟨(some 17), .mv (.t 0), none⟩,
      ⟨(some 18), .mv (.t 5), none⟩,
      ⟨(some 19), .ixs 1 (.t 17) (.t 18), none⟩,
      ⟨(some 20), .ld none (.t 19), none⟩,
      ⟨(some 21), .mv (.t 1), none⟩,
      ⟨(some 22), .mv (.t 5), none⟩,
      ⟨(some 23), .ixs 1 (.t 21) (.t 22), none⟩,
      ⟨(some 24), .ld none (.t 23), none⟩,
      ⟨(some 25), .bin .neq (.t 20) (.t 24), none⟩]
    [[], [], [0, 1], [2], [], [], [4, 5], [6], [3, 7]]
    [0, 1, 2, 3, 4, 5, 6, 7, 8])
    (.cond (.t 25)
      (.seq (.region [
        ⟨(some 4), .mv (.c (.bool false)), none⟩])
      (.ret))
      (.skip))))
  (.region [
    ⟨(some 15), .mv (.t 5), none⟩,
    ⟨(some 16), .bin .add (.t 15) (.c (.int .i64 1)), none⟩,
    ⟨(some 5), .mv (.t 16), none⟩])

/-- A part of reeve/reevelaw3.ints. -/
def b71_1 : ACode :=
  .seq (.seq (.region [
    ⟨(some 11), .mv (.t 5), none⟩,
    ⟨(some 12), .mv (.t 0), none⟩,
    ⟨(some 13), .len false (.t 12), none⟩,
    ⟨(some 14), .bin .lss (.t 11) (.t 13), none⟩])
  (.cond (.t 14)
    (.skip)
    (.exit 0)))
  k71_0

/-- A part of reeve/reevelaw3.ints. -/
def k71_2 : ACode :=
  .seq (.seq (.region [
    ⟨(some 6), .mv (.t 0), none⟩,
    ⟨(some 7), .len false (.t 6), none⟩,
    ⟨(some 8), .mv (.t 1), none⟩,
    ⟨(some 9), .len false (.t 8), none⟩,
    ⟨(some 10), .bin .neq (.t 7) (.t 9), none⟩])
  (.cond (.t 10)
    (.seq (.region [
      ⟨(some 4), .mv (.c (.bool false)), none⟩])
    (.ret))
    (.skip)))
  (.seq (.seq (.region [
    ⟨(some 5), .mv (.c (.int .i64 0)), none⟩])
  (.block 0 (
    .loop b71_1)))
  (.seq (.region [
    ⟨(some 4), .mv (.c (.bool true)), none⟩])
  (.ret)))

/-- reeve/reevelaw3.ints -/
def c71 : ACode :=
  .seq (.region [
    ⟨(some 4), .mv (.c (.bool false)), none⟩])
  k71_2
theorem ok71 : fnOk Try.prog 71 c71 26 [.t 4] = true := by kernel_rfl

/-- A part of (*reeve/reeveref1.Mem).Out. -/
def k72_0 : ACode :=
  .cond (.t 21)
    (.region [
      ⟨(some 22), .mv (.t 3), none⟩,
      ⟨(some 23), .mv (.t 4), none⟩,
      ⟨(some 24), .bsl 1 1 [.int .i64 0] [(0, (.t 23))], none⟩,
      ⟨(some 25), .app 1 8 (.t 22) (.t 24), none⟩,
      ⟨(some 3), .mv (.t 25), none⟩])
    (.skip)

/-- A part of (*reeve/reeveref1.Mem).Out. -/
def k72_1 : ACode :=
  .seq (.block 1 (
    .seq (.region [
      ⟨(some 14), .mv (.t 0), none⟩,
      ⟨(some 15), .nck (.t 14), none⟩,
      ⟨(some 16), .fld 0 (.t 15), none⟩,
      ⟨(some 17), .ld none (.t 16), none⟩,
      ⟨(some 18), .mv (.t 4), none⟩,
      ⟨(some 19), .ixs 18 (.t 17) (.t 18), none⟩,
      ⟨(some 20), .fld 16 (.t 19), none⟩,
      ⟨(some 21), .ld none (.t 20), none⟩])
    k72_0))
  (.region [
    ⟨(some 12), .mv (.t 4), none⟩,
    ⟨(some 13), .bin .add (.t 12) (.c (.int .i64 1)), none⟩,
    ⟨(some 4), .mv (.t 13), none⟩])

/-- A part of (*reeve/reeveref1.Mem).Out. -/
def b72_2 : ACode :=
  .seq (.seq (.region [
    ⟨(some 5), .mv (.t 4), none⟩,
    ⟨(some 6), .mv (.t 0), none⟩,
    ⟨(some 7), .nck (.t 6), none⟩,
    ⟨(some 8), .fld 0 (.t 7), none⟩,
    ⟨(some 9), .ld none (.t 8), none⟩,
    ⟨(some 10), .len false (.t 9), none⟩,
    ⟨(some 11), .bin .lss (.t 5) (.t 10), none⟩])
  (.cond (.t 11)
    (.skip)
    (.exit 0)))
  k72_1

/-- A part of (*reeve/reeveref1.Mem).Out. -/
def k72_3 : ACode :=
  .seq (.region [
    ⟨(some 3), .mv (.c (.lit (.slice none 0 0))), none⟩])
  (.seq (.seq (.region [
    ⟨(some 4), .mv (.c (.int .i64 0)), none⟩])
  (.block 0 (
    .loop b72_2)))
  (.seq (.region [
    ⟨(some 26), .mv (.t 3), none⟩,
    ⟨(some 2), .mv (.t 26), none⟩])
  (.ret)))

/-- (*reeve/reeveref1.Mem).Out -/
def c72 : ACode :=
  .seq (.region [
    ⟨(some 2), .mv (.c (.lit (.slice none 0 0))), none⟩])
  k72_3
theorem ok72 : fnOk Try.prog 72 c72 27 [.t 2] = true := by kernel_rfl

/-- A part of reeve/right.of. -/
def k73_0 : ACode :=
  .seq (.seq (.region [
    ⟨(some 3), .mv (.t 0), none⟩,
    ⟨(some 4), .call 17 [(.t 3)], none⟩,
    ⟨(some 5), .un .not (.t 4), none⟩])
  (.cond (.t 5)
    (.seq (.region [
      ⟨(some 2), .mv (.c (.int .i64 0)), none⟩])
    (.ret))
    (.skip)))
  (.seq (.region [
    ⟨(some 6), .mv (.t 0), none⟩,
    ⟨(some 2), .mv (.t 6), none⟩])
  (.ret))

/-- reeve/right.of -/
def c73 : ACode :=
  .seq (.region [
    ⟨(some 2), .mv (.c (.int .i64 0)), none⟩])
  k73_0
theorem ok73 : fnOk Try.prog 73 c73 7 [.t 2] = true := by kernel_rfl

/-- A part of reeve/row.in. -/
def k74_0 : ACode :=
  .seq (.region [
    ⟨(some 3), .mv (.t 0), none⟩,
    ⟨(some 4), .bin .geq (.t 3) (.c (.int .i64 0)), none⟩,
    ⟨(some 5), .mv (.t 4), none⟩,
    ⟨(some 6), .mv (.t 0), (some (5, true))⟩,
    ⟨(some 7), .bin .lss (.t 6) (.c (.int .i64 8)), (some (5, true))⟩,
    ⟨(some 8), .pick (.t 5) (.t 7) (.c (.bool false)), none⟩,
    ⟨(some 2), .mv (.t 8), none⟩])
  (.ret)

/-- reeve/row.in -/
def c74 : ACode :=
  .seq (.region [
    ⟨(some 2), .mv (.c (.bool false)), none⟩])
  k74_0
theorem ok74 : fnOk Try.prog 74 c74 9 [.t 2] = true := by kernel_rfl

/-- A part of reeve/reeveref7.held. -/
def k75_0 : ACode :=
  .seq (.seq (.region [
    ⟨(some 3), .mv (.t 0), none⟩,
    ⟨(some 4), .bin .lss (.t 3) (.c (.int .i64 0)), none⟩,
    ⟨(some 5), .mv (.t 4), none⟩,
    ⟨(some 6), .mv (.t 0), (some (5, false))⟩,
    ⟨(some 7), .bin .gtr (.t 6) (.c (.int .i64 7)), (some (5, false))⟩,
    ⟨(some 8), .pick (.t 5) (.c (.bool true)) (.t 7), none⟩])
  (.cond (.t 8)
    (.seq (.region [
      ⟨(some 2), .mv (.c (.int .i64 0)), none⟩])
    (.ret))
    (.skip)))
  (.seq (.region [
    ⟨(some 9), .mv (.t 0), none⟩,
    ⟨(some 2), .mv (.t 9), none⟩])
  (.ret))

/-- reeve/reeveref7.held -/
def c75 : ACode :=
  .seq (.region [
    ⟨(some 2), .mv (.c (.int .i64 0)), none⟩])
  k75_0
theorem ok75 : fnOk Try.prog 75 c75 10 [.t 2] = true := by kernel_rfl

/-- A part of (*reeve/nvm.Mem).may. -/
def k76_0 : ACode :=
  .seq (.region [
    ⟨(some 13), .mv (.t 1), none⟩,
    ⟨(some 14), .bin .lss (.t 13) (.c (.int .i64 0)), none⟩,
    ⟨(some 15), .mv (.t 14), none⟩,
    ⟨(some 16), .mv (.t 1), (some (15, false))⟩,
    ⟨(some 17), .mv (.t 2), (some (15, false))⟩,
    ⟨(some 18), .bin .geq (.t 16) (.t 17), (some (15, false))⟩,
    ⟨(some 19), .pick (.t 15) (.c (.bool true)) (.t 18), none⟩,
    ⟨(some 12), .mv (.t 19), none⟩])
  (.cond (.t 12)
    (.seq (.region [
      ⟨(some 6), .mv (.c (.int .i64 1)), none⟩])
    (.ret))
    (.skip))

/-- A part of (*reeve/nvm.Mem).may. -/
def k76_1 : ACode :=
  .seq (.block 0 (
    .seq (.region [
      ⟨(some 8), .mv (.t 0), none⟩,
      ⟨(some 9), .nck (.t 8), none⟩,
      ⟨(some 10), .fld 1 (.t 9), none⟩,
      ⟨(some 11), .ld none (.t 10), none⟩,
      ⟨(some 7), .mv (.t 11), none⟩])
    (.cond (.t 7)
      (.seq (.region [
        ⟨(some 6), .mv (.c (.int .i64 12)), none⟩])
      (.ret))
      k76_0)))
  (.seq (.region [
    ⟨(some 6), .mv (.c (.int .i64 0)), none⟩])
  (.ret))

/-- (*reeve/nvm.Mem).may -/
def c76 : ACode :=
  .seq (.region [
    ⟨(some 6), .mv (.c (.int .i64 0)), none⟩])
  k76_1
theorem ok76 : fnOk Try.prog 76 c76 20 [.t 6] = true := by kernel_rfl

/-- A part of (*reeve/nvm.Mem).burn. -/
def k77_0 : ACode :=
  .seq (.region [
    ⟨(some 20), .mv (.t 0), none⟩,
    ⟨(some 21), .mv (.t 0), none⟩,
    ⟨(some 22), .nck (.t 21), none⟩,
    ⟨(some 23), .fld 4 (.t 22), none⟩,
    ⟨(some 24), .ld none (.t 23), none⟩,
    ⟨(some 25), .call 52 [(.t 20), (.t 24)], none⟩])
  (.seq (.region [
    ⟨(some 2), .mv (.c (.bool false)), none⟩])
  (.ret))

/-- A part of (*reeve/nvm.Mem).burn. -/
def k77_1 : ACode :=
  .seq (.region [
    ⟨(some 15), .mv (.t 0), none⟩,
    ⟨(some 16), .nck (.t 15), none⟩,
    ⟨(some 17), .fld 3 (.t 16), none⟩,
    ⟨(some 18), .ld none (.t 17), none⟩,
    ⟨(some 19), .bin .eql (.t 18) (.c (.int .i64 0)), none⟩])
  (.cond (.t 19)
    k77_0
    (.skip))

/-- A part of (*reeve/nvm.Mem).burn. -/
def k77_2 : ACode :=
  .seq (.region [
    ⟨(some 8), .mv (.t 0), none⟩,
    ⟨(some 9), .nck (.t 8), none⟩,
    ⟨(some 10), .fld 3 (.t 9), none⟩,
    ⟨(some 11), .ld none (.t 10), none⟩,
    ⟨(some 12), .bin .sub (.t 11) (.c (.int .i64 1)), none⟩,
    ⟨(some 13), .nck (.t 8), none⟩,
    ⟨(some 14), .fld 3 (.t 13), none⟩,
    ⟨none, .st 1 (.t 14) (.t 12), none⟩])
  k77_1

/-- A part of (*reeve/nvm.Mem).burn. -/
def k77_3 : ACode :=
  .seq (.region [
    ⟨(some 26), .mv (.t 0), none⟩,
    ⟨(some 27), .nck (.t 26), none⟩,
    ⟨(some 28), .fld 2 (.t 27), none⟩,
    ⟨(some 29), .ld none (.t 28), none⟩,
    ⟨(some 30), .bin .add (.t 29) (.c (.int .i64 1)), none⟩,
    ⟨(some 31), .nck (.t 26), none⟩,
    ⟨(some 32), .fld 2 (.t 31), none⟩,
    ⟨none, .st 1 (.t 32) (.t 30), none⟩])
  (.seq (.region [
    ⟨(some 2), .mv (.c (.bool true)), none⟩])
  (.ret))

/-- A part of (*reeve/nvm.Mem).burn. -/
def k77_4 : ACode :=
  .seq (.seq (.region [
    ⟨(some 3), .mv (.t 0), none⟩,
    ⟨(some 4), .nck (.t 3), none⟩,
    ⟨(some 5), .fld 3 (.t 4), none⟩,
    ⟨(some 6), .ld none (.t 5), none⟩,
    ⟨(some 7), .bin .gtr (.t 6) (.c (.int .i64 0)), none⟩])
  (.cond (.t 7)
    k77_2
    (.skip)))
  k77_3

/-- (*reeve/nvm.Mem).burn -/
def c77 : ACode :=
  .seq (.region [
    ⟨(some 2), .mv (.c (.bool false)), none⟩])
  k77_4
theorem ok77 : fnOk Try.prog 77 c77 33 [.t 2] = true := by kernel_rfl

/-- slices.Contains[[]int,int] -/
def c78 : ACode :=
  .seq (.region [
    ⟨(some 4), .mv (.c (.bool false)), none⟩])
  (.seq (.region [
    ⟨(some 5), .mv (.t 0), none⟩,
    ⟨(some 6), .mv (.t 1), none⟩,
    ⟨(some 7), .call 82 [(.t 5), (.t 6)], none⟩,
    ⟨(some 8), .bin .geq (.t 7) (.c (.int .i64 0)), none⟩,
    ⟨(some 4), .mv (.t 8), none⟩])
  (.ret))
theorem ok78 : fnOk Try.prog 78 c78 9 [.t 4] = true := by kernel_rfl

/-- A part of (*reeve/reeveref1.Mem).look. -/
def k79_0 : ACode :=
  .seq (.seq (.region [
    ⟨(some 11), .mv (.t 1), none⟩,
    ⟨(some 12), .bin .lss (.t 11) (.c (.int .i64 0)), none⟩,
    ⟨(some 13), .mv (.t 12), none⟩,
    ⟨(some 14), .mv (.t 1), (some (13, false))⟩,
    ⟨(some 15), .mv (.t 2), (some (13, false))⟩,
    ⟨(some 16), .bin .geq (.t 14) (.t 15), (some (13, false))⟩,
    ⟨(some 17), .pick (.t 13) (.c (.bool true)) (.t 16), none⟩])
  (.cond (.t 17)
    (.seq (.region [
      ⟨(some 6), .mv (.c (.int .i64 1)), none⟩])
    (.ret))
    (.skip)))
  (.seq (.region [
    ⟨(some 6), .mv (.c (.int .i64 0)), none⟩])
  (.ret))

/-- A part of (*reeve/reeveref1.Mem).look. -/
def k79_1 : ACode :=
  .seq (.seq (.region [
    ⟨(some 7), .mv (.t 0), none⟩,
    ⟨(some 8), .nck (.t 7), none⟩,
    ⟨(some 9), .fld 1 (.t 8), none⟩,
    ⟨(some 10), .ld none (.t 9), none⟩])
  (.cond (.t 10)
    (.seq (.region [
      ⟨(some 6), .mv (.c (.int .i64 12)), none⟩])
    (.ret))
    (.skip)))
  k79_0

/-- (*reeve/reeveref1.Mem).look -/
def c79 : ACode :=
  .seq (.region [
    ⟨(some 6), .mv (.c (.int .i64 0)), none⟩])
  k79_1
theorem ok79 : fnOk Try.prog 79 c79 18 [.t 6] = true := by kernel_rfl

/-- A part of (*reeve/reeveref1.Mem).count. -/
def k80_0 : ACode :=
  .seq (.region [
    ⟨(some 20), .mv (.t 0), none⟩,
    ⟨(some 21), .mv (.t 0), none⟩,
    ⟨(some 22), .nck (.t 21), none⟩,
    ⟨(some 23), .fld 4 (.t 22), none⟩,
    ⟨(some 24), .ld none (.t 23), none⟩,
    ⟨(some 25), .call 65 [(.t 20), (.t 24)], none⟩])
  (.seq (.region [
    ⟨(some 2), .mv (.c (.bool false)), none⟩])
  (.ret))

/-- A part of (*reeve/reeveref1.Mem).count. -/
def k80_1 : ACode :=
  .seq (.region [
    ⟨(some 15), .mv (.t 0), none⟩,
    ⟨(some 16), .nck (.t 15), none⟩,
    ⟨(some 17), .fld 3 (.t 16), none⟩,
    ⟨(some 18), .ld none (.t 17), none⟩,
    ⟨(some 19), .bin .eql (.t 18) (.c (.int .i64 0)), none⟩])
  (.cond (.t 19)
    k80_0
    (.skip))

/-- A part of (*reeve/reeveref1.Mem).count. -/
def k80_2 : ACode :=
  .seq (.region [
    ⟨(some 8), .mv (.t 0), none⟩,
    ⟨(some 9), .nck (.t 8), none⟩,
    ⟨(some 10), .fld 3 (.t 9), none⟩,
    ⟨(some 11), .ld none (.t 10), none⟩,
    ⟨(some 12), .bin .sub (.t 11) (.c (.int .i64 1)), none⟩,
    ⟨(some 13), .nck (.t 8), none⟩,
    ⟨(some 14), .fld 3 (.t 13), none⟩,
    ⟨none, .st 1 (.t 14) (.t 12), none⟩])
  k80_1

/-- A part of (*reeve/reeveref1.Mem).count. -/
def k80_3 : ACode :=
  .seq (.region [
    ⟨(some 26), .mv (.t 0), none⟩,
    ⟨(some 27), .nck (.t 26), none⟩,
    ⟨(some 28), .fld 2 (.t 27), none⟩,
    ⟨(some 29), .ld none (.t 28), none⟩,
    ⟨(some 30), .bin .add (.t 29) (.c (.int .i64 1)), none⟩,
    ⟨(some 31), .nck (.t 26), none⟩,
    ⟨(some 32), .fld 2 (.t 31), none⟩,
    ⟨none, .st 1 (.t 32) (.t 30), none⟩])
  (.seq (.region [
    ⟨(some 2), .mv (.c (.bool true)), none⟩])
  (.ret))

/-- A part of (*reeve/reeveref1.Mem).count. -/
def k80_4 : ACode :=
  .seq (.seq (.region [
    ⟨(some 3), .mv (.t 0), none⟩,
    ⟨(some 4), .nck (.t 3), none⟩,
    ⟨(some 5), .fld 3 (.t 4), none⟩,
    ⟨(some 6), .ld none (.t 5), none⟩,
    ⟨(some 7), .bin .gtr (.t 6) (.c (.int .i64 0)), none⟩])
  (.cond (.t 7)
    k80_2
    (.skip)))
  k80_3

/-- (*reeve/reeveref1.Mem).count -/
def c80 : ACode :=
  .seq (.region [
    ⟨(some 2), .mv (.c (.bool false)), none⟩])
  k80_4
theorem ok80 : fnOk Try.prog 80 c80 33 [.t 2] = true := by kernel_rfl

/-- A part of slices.Clone[[]int,int]. -/
def k81_0 : ACode :=
  .seq (.seq (.region [
    ⟨(some 3), .mv (.t 0), none⟩,
    ⟨(some 4), .isNil false 1 (.t 3), none⟩])
  (.cond (.t 4)
    (.seq (.region [
      ⟨(some 2), .mv (.c (.lit (.slice none 0 0))), none⟩])
    (.ret))
    (.skip)))
  (.seq (.region [
    ⟨(some 5), .bsl 1 0 [.int .i64 0] [], none⟩,
    ⟨(some 6), .mv (.t 0), none⟩,
    ⟨(some 7), .app 1 8 (.t 5) (.t 6), none⟩,
    ⟨(some 2), .mv (.t 7), none⟩])
  (.ret))

/-- slices.Clone[[]int,int] -/
def c81 : ACode :=
  .seq (.region [
    ⟨(some 2), .mv (.c (.lit (.slice none 0 0))), none⟩])
  k81_0
theorem ok81 : fnOk Try.prog 81 c81 8 [.t 2] = true := by kernel_rfl

/-- A part of slices.Index[[]int,int]. -/
def k82_0 : ACode :=
  .seq (.region [
    ⟨(some 11), .mv (.t 1), none⟩,
    ⟨(some 12), .mv (.t 0), none⟩,
    ⟨(some 13), .mv (.t 5), none⟩,
    ⟨(some 14), .ixs 1 (.t 12) (.t 13), none⟩,
    ⟨(some 15), .ld none (.t 14), none⟩,
    ⟨(some 16), .bin .eql (.t 11) (.t 15), none⟩])
  (.cond (.t 16)
    (.seq (.region [
      ⟨(some 17), .mv (.t 5), none⟩,
      ⟨(some 4), .mv (.t 17), none⟩])
    (.ret))
    (.skip))

/-- A part of slices.Index[[]int,int]. -/
def k82_1 : ACode :=
  .seq (.cond (.t 9)
    (.skip)
    (.exit 0))
  (.seq (.block 1 (
    .seq (.region [
      ⟨(some 10), .mv (.t 8), none⟩,
      ⟨(some 5), .mv (.t 10), none⟩])
    k82_0))
  (.region [
    ⟨(some 18), .bin .add (.t 8) (.c (.int .i64 1)), none⟩,
    ⟨(some 8), .mv (.t 18), none⟩]))

/-- A part of slices.Index[[]int,int]. -/
def b82_2 : ACode :=
  .seq (.region [
    ⟨(some 9), .bin .lss (.t 8) (.t 7), none⟩])
  k82_1

/-- A part of slices.Index[[]int,int]. -/
def k82_3 : ACode :=
  .seq (.seq (.region [
    ⟨(some 6), .mv (.t 0), none⟩,
    ⟨(some 7), .len false (.t 6), none⟩,
    ⟨(some 8), .mv (.c (.int .i64 0)), none⟩])
  (.block 0 (
    .loop b82_2)))
  (.seq (.region [
    ⟨(some 4), .mv (.c (.int .i64 (-1))), none⟩])
  (.ret))

/-- slices.Index[[]int,int] -/
def c82 : ACode :=
  .seq (.region [
    ⟨(some 4), .mv (.c (.int .i64 0)), none⟩])
  k82_3
theorem ok82 : fnOk Try.prog 82 c82 19 [.t 4] = true := by kernel_rfl

end Go.Proofs.Ytcdihghokoinhaa.Ax
