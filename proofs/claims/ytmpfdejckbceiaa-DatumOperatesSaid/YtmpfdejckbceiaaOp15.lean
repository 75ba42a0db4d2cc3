/- A part of the proof: lemmas about the walk of the program and about plain integers and lists. No conditions beyond those that each lemma states. -/
import Derived.Test.YtmpfdejckbceiaaProg
import Derived.Test.YtmpfdejckbceiaaOp10
namespace Go.Proofs.Ytmpfdejckbceiaa
open Go Go.Sx
theorem mixed : Try.prog.follows .mixedOrders = true := by kernel_rfl
@[go_sem] theorem sz2 : szT Try.prog 2 = some 1 := by kernel_rfl
@[go_sem] theorem ag2 : aggT Try.prog 2 = some false := by kernel_rfl
@[go_sem] theorem kd2 : kdT Try.prog 2 = some (.int .i64) := by kernel_rfl
@[go_sem] theorem ze2 : zeroT Try.prog 2 = some [.int .i64 0] := by kernel_rfl
@[go_sem] theorem sz3 : szT Try.prog 3 = some 1 := by kernel_rfl
@[go_sem] theorem ag3 : aggT Try.prog 3 = some false := by kernel_rfl
@[go_sem] theorem kd3 : kdT Try.prog 3 = some (.int .i64) := by kernel_rfl
@[go_sem] theorem ze3 : zeroT Try.prog 3 = some [.int .i64 0] := by kernel_rfl
@[go_sem] theorem sz4 : szT Try.prog 4 = some 1 := by kernel_rfl
@[go_sem] theorem ag4 : aggT Try.prog 4 = some false := by kernel_rfl
@[go_sem] theorem kd4 : kdT Try.prog 4 = some (.bool) := by kernel_rfl
@[go_sem] theorem ze4 : zeroT Try.prog 4 = some [.bool false] := by kernel_rfl
@[go_sem] theorem sz5 : szT Try.prog 5 = some 1 := by kernel_rfl
@[go_sem] theorem ag5 : aggT Try.prog 5 = some false := by kernel_rfl
@[go_sem] theorem kd5 : kdT Try.prog 5 = some (.int .u8) := by kernel_rfl
@[go_sem] theorem ze5 : zeroT Try.prog 5 = some [.int .u8 0] := by kernel_rfl
@[go_sem] theorem sz6 : szT Try.prog 6 = some 1 := by kernel_rfl
@[go_sem] theorem ag6 : aggT Try.prog 6 = some false := by kernel_rfl
@[go_sem] theorem kd6 : kdT Try.prog 6 = some (.int .u8) := by kernel_rfl
@[go_sem] theorem ze6 : zeroT Try.prog 6 = some [.int .u8 0] := by kernel_rfl
@[go_sem] theorem sz7 : szT Try.prog 7 = some 4 := by kernel_rfl
@[go_sem] theorem ag7 : aggT Try.prog 7 = some true := by kernel_rfl
@[go_sem] theorem kd7 : kdT Try.prog 7 = some (.other) := by kernel_rfl
@[go_sem] theorem fl7_0 : fldT Try.prog 7 0 = some (0, 1, false) := by kernel_rfl
@[go_sem] theorem pr7_0 : prtT Try.prog 7 0 = some (0, 1, 2) := by kernel_rfl
@[go_sem] theorem fl7_1 : fldT Try.prog 7 1 = some (1, 1, false) := by kernel_rfl
@[go_sem] theorem pr7_1 : prtT Try.prog 7 1 = some (1, 1, 3) := by kernel_rfl
@[go_sem] theorem fl7_2 : fldT Try.prog 7 2 = some (2, 1, false) := by kernel_rfl
@[go_sem] theorem pr7_2 : prtT Try.prog 7 2 = some (2, 1, 4) := by kernel_rfl
@[go_sem] theorem fl7_3 : fldT Try.prog 7 3 = some (3, 1, false) := by kernel_rfl
@[go_sem] theorem pr7_3 : prtT Try.prog 7 3 = some (3, 1, 6) := by kernel_rfl
@[go_sem] theorem fo7 : fieldsOk Try.prog 7 = true := by kernel_rfl
@[go_sem] theorem ze7 : zeroT Try.prog 7 = some [.int .i64 0, .int .i64 0, .bool false, .int .u8 0] := by kernel_rfl
@[go_sem] theorem sz8 : szT Try.prog 8 = some 4 := by kernel_rfl
@[go_sem] theorem ag8 : aggT Try.prog 8 = some true := by kernel_rfl
@[go_sem] theorem kd8 : kdT Try.prog 8 = some (.other) := by kernel_rfl
@[go_sem] theorem fl8_0 : fldT Try.prog 8 0 = some (0, 1, false) := by kernel_rfl
@[go_sem] theorem pr8_0 : prtT Try.prog 8 0 = some (0, 1, 2) := by kernel_rfl
@[go_sem] theorem fl8_1 : fldT Try.prog 8 1 = some (1, 1, false) := by kernel_rfl
@[go_sem] theorem pr8_1 : prtT Try.prog 8 1 = some (1, 1, 3) := by kernel_rfl
@[go_sem] theorem fl8_2 : fldT Try.prog 8 2 = some (2, 1, false) := by kernel_rfl
@[go_sem] theorem pr8_2 : prtT Try.prog 8 2 = some (2, 1, 4) := by kernel_rfl
@[go_sem] theorem fl8_3 : fldT Try.prog 8 3 = some (3, 1, false) := by kernel_rfl
@[go_sem] theorem pr8_3 : prtT Try.prog 8 3 = some (3, 1, 6) := by kernel_rfl
@[go_sem] theorem fo8 : fieldsOk Try.prog 8 = true := by kernel_rfl
@[go_sem] theorem ze8 : zeroT Try.prog 8 = some [.int .i64 0, .int .i64 0, .bool false, .int .u8 0] := by kernel_rfl
@[go_sem] theorem sz9 : szT Try.prog 9 = some 1 := by kernel_rfl
@[go_sem] theorem ag9 : aggT Try.prog 9 = some false := by kernel_rfl
@[go_sem] theorem kd9 : kdT Try.prog 9 = some (.str) := by kernel_rfl
@[go_sem] theorem ni9 : notInt Try.prog 9 = true := by kernel_rfl
@[go_sem] theorem ze9 : zeroT Try.prog 9 = some [.str []] := by kernel_rfl
@[go_sem] theorem sz10 : szT Try.prog 10 = some 1 := by kernel_rfl
@[go_sem] theorem ag10 : aggT Try.prog 10 = some false := by kernel_rfl
@[go_sem] theorem kd10 : kdT Try.prog 10 = some (.str) := by kernel_rfl
@[go_sem] theorem ni10 : notInt Try.prog 10 = true := by kernel_rfl
@[go_sem] theorem ze10 : zeroT Try.prog 10 = some [.str []] := by kernel_rfl
@[go_sem] theorem sz11 : szT Try.prog 11 = some 1 := by kernel_rfl
@[go_sem] theorem ag11 : aggT Try.prog 11 = some false := by kernel_rfl
@[go_sem] theorem kd11 : kdT Try.prog 11 = some (.str) := by kernel_rfl
@[go_sem] theorem ni11 : notInt Try.prog 11 = true := by kernel_rfl
@[go_sem] theorem ze11 : zeroT Try.prog 11 = some [.str []] := by kernel_rfl
@[go_sem] theorem sz12 : szT Try.prog 12 = some 1 := by kernel_rfl
@[go_sem] theorem ag12 : aggT Try.prog 12 = some false := by kernel_rfl
@[go_sem] theorem kd12 : kdT Try.prog 12 = some (.int .u64) := by kernel_rfl
@[go_sem] theorem ze12 : zeroT Try.prog 12 = some [.int .u64 0] := by kernel_rfl
@[go_sem] theorem sz13 : szT Try.prog 13 = some 2 := by kernel_rfl
@[go_sem] theorem ag13 : aggT Try.prog 13 = some true := by kernel_rfl
@[go_sem] theorem kd13 : kdT Try.prog 13 = some (.other) := by kernel_rfl
@[go_sem] theorem fl13_0 : fldT Try.prog 13 0 = some (0, 1, false) := by kernel_rfl
@[go_sem] theorem pr13_0 : prtT Try.prog 13 0 = some (0, 1, 9) := by kernel_rfl
@[go_sem] theorem fl13_1 : fldT Try.prog 13 1 = some (1, 1, false) := by kernel_rfl
@[go_sem] theorem pr13_1 : prtT Try.prog 13 1 = some (1, 1, 12) := by kernel_rfl
@[go_sem] theorem fo13 : fieldsOk Try.prog 13 = true := by kernel_rfl
@[go_sem] theorem ze13 : zeroT Try.prog 13 = some [.str [], .int .u64 0] := by kernel_rfl
@[go_sem] theorem sz14 : szT Try.prog 14 = some 2 := by kernel_rfl
@[go_sem] theorem ag14 : aggT Try.prog 14 = some true := by kernel_rfl
@[go_sem] theorem kd14 : kdT Try.prog 14 = some (.other) := by kernel_rfl
@[go_sem] theorem fl14_0 : fldT Try.prog 14 0 = some (0, 1, false) := by kernel_rfl
@[go_sem] theorem pr14_0 : prtT Try.prog 14 0 = some (0, 1, 9) := by kernel_rfl
@[go_sem] theorem fl14_1 : fldT Try.prog 14 1 = some (1, 1, false) := by kernel_rfl
@[go_sem] theorem pr14_1 : prtT Try.prog 14 1 = some (1, 1, 12) := by kernel_rfl
@[go_sem] theorem fo14 : fieldsOk Try.prog 14 = true := by kernel_rfl
@[go_sem] theorem ze14 : zeroT Try.prog 14 = some [.str [], .int .u64 0] := by kernel_rfl
@[go_sem] theorem sz15 : szT Try.prog 15 = some 1 := by kernel_rfl
@[go_sem] theorem ag15 : aggT Try.prog 15 = some false := by kernel_rfl
@[go_sem] theorem kd15 : kdT Try.prog 15 = some (.other) := by kernel_rfl
@[go_sem] theorem sz16 : szT Try.prog 16 = some 1 := by kernel_rfl
@[go_sem] theorem ag16 : aggT Try.prog 16 = some false := by kernel_rfl
@[go_sem] theorem kd16 : kdT Try.prog 16 = some (.other) := by kernel_rfl
@[go_sem] theorem sz17 : szT Try.prog 17 = some 1 := by kernel_rfl
@[go_sem] theorem ag17 : aggT Try.prog 17 = some false := by kernel_rfl
@[go_sem] theorem kd17 : kdT Try.prog 17 = some (.other) := by kernel_rfl
@[go_sem] theorem sz18 : szT Try.prog 18 = some 1 := by kernel_rfl
@[go_sem] theorem ag18 : aggT Try.prog 18 = some true := by kernel_rfl
@[go_sem] theorem kd18 : kdT Try.prog 18 = some (.other) := by kernel_rfl
@[go_sem] theorem fl18_0 : fldT Try.prog 18 0 = some (0, 1, false) := by kernel_rfl
@[go_sem] theorem pr18_0 : prtT Try.prog 18 0 = some (0, 1, 17) := by kernel_rfl
@[go_sem] theorem fo18 : fieldsOk Try.prog 18 = true := by kernel_rfl
@[go_sem] theorem sz19 : szT Try.prog 19 = some 1 := by kernel_rfl
@[go_sem] theorem ag19 : aggT Try.prog 19 = some true := by kernel_rfl
@[go_sem] theorem kd19 : kdT Try.prog 19 = some (.other) := by kernel_rfl
@[go_sem] theorem fl19_0 : fldT Try.prog 19 0 = some (0, 1, false) := by kernel_rfl
@[go_sem] theorem pr19_0 : prtT Try.prog 19 0 = some (0, 1, 17) := by kernel_rfl
@[go_sem] theorem fo19 : fieldsOk Try.prog 19 = true := by kernel_rfl
@[go_sem] theorem sz21 : szT Try.prog 21 = some 1 := by kernel_rfl
@[go_sem] theorem ag21 : aggT Try.prog 21 = some false := by kernel_rfl
@[go_sem] theorem kd21 : kdT Try.prog 21 = some (.int .i32) := by kernel_rfl
@[go_sem] theorem ze21 : zeroT Try.prog 21 = some [.int .i32 0] := by kernel_rfl
@[go_sem] theorem sz22 : szT Try.prog 22 = some 1 := by kernel_rfl
@[go_sem] theorem ag22 : aggT Try.prog 22 = some false := by kernel_rfl
@[go_sem] theorem kd22 : kdT Try.prog 22 = some (.other) := by kernel_rfl
@[go_sem] theorem el22 : elT Try.prog 22 = some (1, false) := by kernel_rfl
@[go_sem] theorem bs22 : bsT Try.prog 22 = some (3, 1) := by kernel_rfl
@[go_sem] theorem by22 : byT Try.prog 22 = some 8 := by kernel_rfl
@[go_sem] theorem ni22 : notInt Try.prog 22 = true := by kernel_rfl
@[go_sem] theorem ze22 : zeroT Try.prog 22 = some [.nil 1] := by kernel_rfl
@[go_sem] theorem sz23 : szT Try.prog 23 = some 1 := by kernel_rfl
@[go_sem] theorem ag23 : aggT Try.prog 23 = some false := by kernel_rfl
@[go_sem] theorem kd23 : kdT Try.prog 23 = some (.other) := by kernel_rfl
@[go_sem] theorem sz24 : szT Try.prog 24 = some 2 := by kernel_rfl
@[go_sem] theorem ag24 : aggT Try.prog 24 = some true := by kernel_rfl
@[go_sem] theorem kd24 : kdT Try.prog 24 = some (.other) := by kernel_rfl
@[go_sem] theorem fl24_0 : fldT Try.prog 24 0 = some (0, 1, false) := by kernel_rfl
@[go_sem] theorem pr24_0 : prtT Try.prog 24 0 = some (0, 1, 22) := by kernel_rfl
@[go_sem] theorem fl24_1 : fldT Try.prog 24 1 = some (1, 1, false) := by kernel_rfl
@[go_sem] theorem pr24_1 : prtT Try.prog 24 1 = some (1, 1, 3) := by kernel_rfl
@[go_sem] theorem fo24 : fieldsOk Try.prog 24 = true := by kernel_rfl
@[go_sem] theorem ze24 : zeroT Try.prog 24 = some [.nil 1, .int .i64 0] := by kernel_rfl
@[go_sem] theorem sz25 : szT Try.prog 25 = some 2 := by kernel_rfl
@[go_sem] theorem ag25 : aggT Try.prog 25 = some true := by kernel_rfl
@[go_sem] theorem kd25 : kdT Try.prog 25 = some (.other) := by kernel_rfl
@[go_sem] theorem fl25_0 : fldT Try.prog 25 0 = some (0, 1, false) := by kernel_rfl
@[go_sem] theorem pr25_0 : prtT Try.prog 25 0 = some (0, 1, 22) := by kernel_rfl
@[go_sem] theorem fl25_1 : fldT Try.prog 25 1 = some (1, 1, false) := by kernel_rfl
@[go_sem] theorem pr25_1 : prtT Try.prog 25 1 = some (1, 1, 3) := by kernel_rfl
@[go_sem] theorem fo25 : fieldsOk Try.prog 25 = true := by kernel_rfl
@[go_sem] theorem ze25 : zeroT Try.prog 25 = some [.nil 1, .int .i64 0] := by kernel_rfl
@[go_sem] theorem sz26 : szT Try.prog 26 = some 1 := by kernel_rfl
@[go_sem] theorem ag26 : aggT Try.prog 26 = some false := by kernel_rfl
@[go_sem] theorem kd26 : kdT Try.prog 26 = some (.other) := by kernel_rfl
@[go_sem] theorem el26 : elT Try.prog 26 = some (1, false) := by kernel_rfl
@[go_sem] theorem bs26 : bsT Try.prog 26 = some (9, 1) := by kernel_rfl
@[go_sem] theorem by26 : byT Try.prog 26 = some 16 := by kernel_rfl
@[go_sem] theorem ni26 : notInt Try.prog 26 = true := by kernel_rfl
@[go_sem] theorem ze26 : zeroT Try.prog 26 = some [.nil 1] := by kernel_rfl
@[go_sem] theorem sz27 : szT Try.prog 27 = some 1 := by kernel_rfl
@[go_sem] theorem ag27 : aggT Try.prog 27 = some false := by kernel_rfl
@[go_sem] theorem kd27 : kdT Try.prog 27 = some (.other) := by kernel_rfl
@[go_sem] theorem el27 : elT Try.prog 27 = some (13, true) := by kernel_rfl
@[go_sem] theorem bs27 : bsT Try.prog 27 = some (33, 13) := by kernel_rfl
@[go_sem] theorem by27 : byT Try.prog 27 = some 184 := by kernel_rfl
@[go_sem] theorem ni27 : notInt Try.prog 27 = true := by kernel_rfl
@[go_sem] theorem ze27 : zeroT Try.prog 27 = some [.nil 13] := by kernel_rfl
@[go_sem] theorem sz28 : szT Try.prog 28 = some 1 := by kernel_rfl
@[go_sem] theorem ag28 : aggT Try.prog 28 = some false := by kernel_rfl
@[go_sem] theorem kd28 : kdT Try.prog 28 = some (.other) := by kernel_rfl
@[go_sem] theorem el28 : elT Try.prog 28 = some (2, true) := by kernel_rfl
@[go_sem] theorem bs28 : bsT Try.prog 28 = some (59, 2) := by kernel_rfl
@[go_sem] theorem by28 : byT Try.prog 28 = some 24 := by kernel_rfl
@[go_sem] theorem ni28 : notInt Try.prog 28 = true := by kernel_rfl
@[go_sem] theorem ze28 : zeroT Try.prog 28 = some [.nil 2] := by kernel_rfl
@[go_sem] theorem sz29 : szT Try.prog 29 = some 1 := by kernel_rfl
@[go_sem] theorem ag29 : aggT Try.prog 29 = some false := by kernel_rfl
@[go_sem] theorem kd29 : kdT Try.prog 29 = some (.other) := by kernel_rfl
@[go_sem] theorem el29 : elT Try.prog 29 = some (8, true) := by kernel_rfl
@[go_sem] theorem bs29 : bsT Try.prog 29 = some (72, 8) := by kernel_rfl
@[go_sem] theorem by29 : byT Try.prog 29 = some 104 := by kernel_rfl
@[go_sem] theorem ni29 : notInt Try.prog 29 = true := by kernel_rfl
@[go_sem] theorem ze29 : zeroT Try.prog 29 = some [.nil 8] := by kernel_rfl
@[go_sem] theorem sz30 : szT Try.prog 30 = some 2 := by kernel_rfl
@[go_sem] theorem ag30 : aggT Try.prog 30 = some true := by kernel_rfl
@[go_sem] theorem kd30 : kdT Try.prog 30 = some (.other) := by kernel_rfl
@[go_sem] theorem fl30_0 : fldT Try.prog 30 0 = some (0, 1, false) := by kernel_rfl
@[go_sem] theorem pr30_0 : prtT Try.prog 30 0 = some (0, 1, 29) := by kernel_rfl
@[go_sem] theorem fl30_1 : fldT Try.prog 30 1 = some (1, 1, false) := by kernel_rfl
@[go_sem] theorem pr30_1 : prtT Try.prog 30 1 = some (1, 1, 3) := by kernel_rfl
@[go_sem] theorem fo30 : fieldsOk Try.prog 30 = true := by kernel_rfl
@[go_sem] theorem ze30 : zeroT Try.prog 30 = some [.nil 8, .int .i64 0] := by kernel_rfl
@[go_sem] theorem sz31 : szT Try.prog 31 = some 2 := by kernel_rfl
@[go_sem] theorem ag31 : aggT Try.prog 31 = some true := by kernel_rfl
@[go_sem] theorem kd31 : kdT Try.prog 31 = some (.other) := by kernel_rfl
@[go_sem] theorem fl31_0 : fldT Try.prog 31 0 = some (0, 1, false) := by kernel_rfl
@[go_sem] theorem pr31_0 : prtT Try.prog 31 0 = some (0, 1, 29) := by kernel_rfl
@[go_sem] theorem fl31_1 : fldT Try.prog 31 1 = some (1, 1, false) := by kernel_rfl
@[go_sem] theorem pr31_1 : prtT Try.prog 31 1 = some (1, 1, 3) := by kernel_rfl
@[go_sem] theorem fo31 : fieldsOk Try.prog 31 = true := by kernel_rfl
@[go_sem] theorem ze31 : zeroT Try.prog 31 = some [.nil 8, .int .i64 0] := by kernel_rfl
@[go_sem] theorem sz32 : szT Try.prog 32 = some 13 := by kernel_rfl
@[go_sem] theorem ag32 : aggT Try.prog 32 = some true := by kernel_rfl
@[go_sem] theorem kd32 : kdT Try.prog 32 = some (.other) := by kernel_rfl
@[go_sem] theorem fl32_0 : fldT Try.prog 32 0 = some (0, 1, false) := by kernel_rfl
@[go_sem] theorem pr32_0 : prtT Try.prog 32 0 = some (0, 1, 3) := by kernel_rfl
@[go_sem] theorem fl32_1 : fldT Try.prog 32 1 = some (1, 1, false) := by kernel_rfl
@[go_sem] theorem pr32_1 : prtT Try.prog 32 1 = some (1, 1, 2) := by kernel_rfl
@[go_sem] theorem fl32_2 : fldT Try.prog 32 2 = some (2, 1, false) := by kernel_rfl
@[go_sem] theorem pr32_2 : prtT Try.prog 32 2 = some (2, 1, 9) := by kernel_rfl
@[go_sem] theorem fl32_3 : fldT Try.prog 32 3 = some (3, 1, false) := by kernel_rfl
@[go_sem] theorem pr32_3 : prtT Try.prog 32 3 = some (3, 1, 27) := by kernel_rfl
@[go_sem] theorem fl32_4 : fldT Try.prog 32 4 = some (4, 1, false) := by kernel_rfl
@[go_sem] theorem pr32_4 : prtT Try.prog 32 4 = some (4, 1, 28) := by kernel_rfl
@[go_sem] theorem fl32_5 : fldT Try.prog 32 5 = some (5, 1, false) := by kernel_rfl
@[go_sem] theorem pr32_5 : prtT Try.prog 32 5 = some (5, 1, 9) := by kernel_rfl
@[go_sem] theorem fl32_6 : fldT Try.prog 32 6 = some (6, 1, false) := by kernel_rfl
@[go_sem] theorem pr32_6 : prtT Try.prog 32 6 = some (6, 1, 3) := by kernel_rfl
@[go_sem] theorem fl32_7 : fldT Try.prog 32 7 = some (7, 1, false) := by kernel_rfl
@[go_sem] theorem pr32_7 : prtT Try.prog 32 7 = some (7, 1, 3) := by kernel_rfl
@[go_sem] theorem fl32_8 : fldT Try.prog 32 8 = some (8, 1, false) := by kernel_rfl
@[go_sem] theorem pr32_8 : prtT Try.prog 32 8 = some (8, 1, 4) := by kernel_rfl
@[go_sem] theorem fl32_9 : fldT Try.prog 32 9 = some (9, 2, true) := by kernel_rfl
@[go_sem] theorem pr32_9 : prtT Try.prog 32 9 = some (9, 2, 31) := by kernel_rfl
@[go_sem] theorem fl32_10 : fldT Try.prog 32 10 = some (11, 1, false) := by kernel_rfl
@[go_sem] theorem pr32_10 : prtT Try.prog 32 10 = some (11, 1, 9) := by kernel_rfl
@[go_sem] theorem fl32_11 : fldT Try.prog 32 11 = some (12, 1, false) := by kernel_rfl
@[go_sem] theorem pr32_11 : prtT Try.prog 32 11 = some (12, 1, 9) := by kernel_rfl
@[go_sem] theorem fo32 : fieldsOk Try.prog 32 = true := by kernel_rfl
@[go_sem] theorem ze32 : zeroT Try.prog 32 = some [.int .i64 0, .int .i64 0, .str [], .nil 13, .nil 2, .str [], .int .i64 0, .int .i64 0, .bool false, .nil 8, .int .i64 0, .str [], .str []] := by kernel_rfl
@[go_sem] theorem sz33 : szT Try.prog 33 = some 13 := by kernel_rfl
@[go_sem] theorem ag33 : aggT Try.prog 33 = some true := by kernel_rfl
@[go_sem] theorem kd33 : kdT Try.prog 33 = some (.other) := by kernel_rfl
@[go_sem] theorem fl33_0 : fldT Try.prog 33 0 = some (0, 1, false) := by kernel_rfl
@[go_sem] theorem pr33_0 : prtT Try.prog 33 0 = some (0, 1, 3) := by kernel_rfl
@[go_sem] theorem fl33_1 : fldT Try.prog 33 1 = some (1, 1, false) := by kernel_rfl
@[go_sem] theorem pr33_1 : prtT Try.prog 33 1 = some (1, 1, 2) := by kernel_rfl
@[go_sem] theorem fl33_2 : fldT Try.prog 33 2 = some (2, 1, false) := by kernel_rfl
@[go_sem] theorem pr33_2 : prtT Try.prog 33 2 = some (2, 1, 9) := by kernel_rfl
@[go_sem] theorem fl33_3 : fldT Try.prog 33 3 = some (3, 1, false) := by kernel_rfl
@[go_sem] theorem pr33_3 : prtT Try.prog 33 3 = some (3, 1, 27) := by kernel_rfl
@[go_sem] theorem fl33_4 : fldT Try.prog 33 4 = some (4, 1, false) := by kernel_rfl
@[go_sem] theorem pr33_4 : prtT Try.prog 33 4 = some (4, 1, 28) := by kernel_rfl
@[go_sem] theorem fl33_5 : fldT Try.prog 33 5 = some (5, 1, false) := by kernel_rfl
@[go_sem] theorem pr33_5 : prtT Try.prog 33 5 = some (5, 1, 9) := by kernel_rfl
@[go_sem] theorem fl33_6 : fldT Try.prog 33 6 = some (6, 1, false) := by kernel_rfl
@[go_sem] theorem pr33_6 : prtT Try.prog 33 6 = some (6, 1, 3) := by kernel_rfl
@[go_sem] theorem fl33_7 : fldT Try.prog 33 7 = some (7, 1, false) := by kernel_rfl
@[go_sem] theorem pr33_7 : prtT Try.prog 33 7 = some (7, 1, 3) := by kernel_rfl
@[go_sem] theorem fl33_8 : fldT Try.prog 33 8 = some (8, 1, false) := by kernel_rfl
@[go_sem] theorem pr33_8 : prtT Try.prog 33 8 = some (8, 1, 4) := by kernel_rfl
@[go_sem] theorem fl33_9 : fldT Try.prog 33 9 = some (9, 2, true) := by kernel_rfl
@[go_sem] theorem pr33_9 : prtT Try.prog 33 9 = some (9, 2, 31) := by kernel_rfl
@[go_sem] theorem fl33_10 : fldT Try.prog 33 10 = some (11, 1, false) := by kernel_rfl
@[go_sem] theorem pr33_10 : prtT Try.prog 33 10 = some (11, 1, 9) := by kernel_rfl
@[go_sem] theorem fl33_11 : fldT Try.prog 33 11 = some (12, 1, false) := by kernel_rfl
@[go_sem] theorem pr33_11 : prtT Try.prog 33 11 = some (12, 1, 9) := by kernel_rfl
@[go_sem] theorem fo33 : fieldsOk Try.prog 33 = true := by kernel_rfl
@[go_sem] theorem ze33 : zeroT Try.prog 33 = some [.int .i64 0, .int .i64 0, .str [], .nil 13, .nil 2, .str [], .int .i64 0, .int .i64 0, .bool false, .nil 8, .int .i64 0, .str [], .str []] := by kernel_rfl
@[go_sem] theorem sz35 : szT Try.prog 35 = some 1 := by kernel_rfl
@[go_sem] theorem ag35 : aggT Try.prog 35 = some false := by kernel_rfl
@[go_sem] theorem kd35 : kdT Try.prog 35 = some (.int .u64) := by kernel_rfl
@[go_sem] theorem ze35 : zeroT Try.prog 35 = some [.int .u64 0] := by kernel_rfl
@[go_sem] theorem sz37 : szT Try.prog 37 = some 1 := by kernel_rfl
@[go_sem] theorem ag37 : aggT Try.prog 37 = some false := by kernel_rfl
@[go_sem] theorem kd37 : kdT Try.prog 37 = some (.other) := by kernel_rfl
@[go_sem] theorem el37 : elT Try.prog 37 = some (1, false) := by kernel_rfl
@[go_sem] theorem bs37 : bsT Try.prog 37 = some (27, 1) := by kernel_rfl
@[go_sem] theorem by37 : byT Try.prog 37 = some 24 := by kernel_rfl
@[go_sem] theorem ni37 : notInt Try.prog 37 = true := by kernel_rfl
@[go_sem] theorem ze37 : zeroT Try.prog 37 = some [.nil 1] := by kernel_rfl
@[go_sem] theorem sz47 : szT Try.prog 47 = some 1 := by kernel_rfl
@[go_sem] theorem ag47 : aggT Try.prog 47 = some false := by kernel_rfl
@[go_sem] theorem kd47 : kdT Try.prog 47 = some (.other) := by kernel_rfl
@[go_sem] theorem el47 : elT Try.prog 47 = some (7, true) := by kernel_rfl
@[go_sem] theorem bs47 : bsT Try.prog 47 = some (50, 7) := by kernel_rfl
@[go_sem] theorem by47 : byT Try.prog 47 = some 128 := by kernel_rfl
@[go_sem] theorem ni47 : notInt Try.prog 47 = true := by kernel_rfl
@[go_sem] theorem ze47 : zeroT Try.prog 47 = some [.nil 7] := by kernel_rfl
@[go_sem] theorem sz48 : szT Try.prog 48 = some 1 := by kernel_rfl
@[go_sem] theorem ag48 : aggT Try.prog 48 = some false := by kernel_rfl
@[go_sem] theorem kd48 : kdT Try.prog 48 = some (.other) := by kernel_rfl
@[go_sem] theorem el48 : elT Try.prog 48 = some (9, true) := by kernel_rfl
@[go_sem] theorem bs48 : bsT Try.prog 48 = some (106, 9) := by kernel_rfl
@[go_sem] theorem by48 : byT Try.prog 48 = some 160 := by kernel_rfl
@[go_sem] theorem ni48 : notInt Try.prog 48 = true := by kernel_rfl
@[go_sem] theorem ze48 : zeroT Try.prog 48 = some [.nil 9] := by kernel_rfl
@[go_sem] theorem sz49 : szT Try.prog 49 = some 7 := by kernel_rfl
@[go_sem] theorem ag49 : aggT Try.prog 49 = some true := by kernel_rfl
@[go_sem] theorem kd49 : kdT Try.prog 49 = some (.other) := by kernel_rfl
@[go_sem] theorem fl49_0 : fldT Try.prog 49 0 = some (0, 1, false) := by kernel_rfl
@[go_sem] theorem pr49_0 : prtT Try.prog 49 0 = some (0, 1, 3) := by kernel_rfl
@[go_sem] theorem fl49_1 : fldT Try.prog 49 1 = some (1, 1, false) := by kernel_rfl
@[go_sem] theorem pr49_1 : prtT Try.prog 49 1 = some (1, 1, 2) := by kernel_rfl
@[go_sem] theorem fl49_2 : fldT Try.prog 49 2 = some (2, 1, false) := by kernel_rfl
@[go_sem] theorem pr49_2 : prtT Try.prog 49 2 = some (2, 1, 9) := by kernel_rfl
@[go_sem] theorem fl49_3 : fldT Try.prog 49 3 = some (3, 1, false) := by kernel_rfl
@[go_sem] theorem pr49_3 : prtT Try.prog 49 3 = some (3, 1, 47) := by kernel_rfl
@[go_sem] theorem fl49_4 : fldT Try.prog 49 4 = some (4, 1, false) := by kernel_rfl
@[go_sem] theorem pr49_4 : prtT Try.prog 49 4 = some (4, 1, 28) := by kernel_rfl
@[go_sem] theorem fl49_5 : fldT Try.prog 49 5 = some (5, 1, false) := by kernel_rfl
@[go_sem] theorem pr49_5 : prtT Try.prog 49 5 = some (5, 1, 48) := by kernel_rfl
@[go_sem] theorem fl49_6 : fldT Try.prog 49 6 = some (6, 1, false) := by kernel_rfl
@[go_sem] theorem pr49_6 : prtT Try.prog 49 6 = some (6, 1, 26) := by kernel_rfl
@[go_sem] theorem fo49 : fieldsOk Try.prog 49 = true := by kernel_rfl
@[go_sem] theorem ze49 : zeroT Try.prog 49 = some [.int .i64 0, .int .i64 0, .str [], .nil 7, .nil 2, .nil 9, .nil 1] := by kernel_rfl
@[go_sem] theorem sz50 : szT Try.prog 50 = some 7 := by kernel_rfl
@[go_sem] theorem ag50 : aggT Try.prog 50 = some true := by kernel_rfl
@[go_sem] theorem kd50 : kdT Try.prog 50 = some (.other) := by kernel_rfl
@[go_sem] theorem fl50_0 : fldT Try.prog 50 0 = some (0, 1, false) := by kernel_rfl
@[go_sem] theorem pr50_0 : prtT Try.prog 50 0 = some (0, 1, 3) := by kernel_rfl
@[go_sem] theorem fl50_1 : fldT Try.prog 50 1 = some (1, 1, false) := by kernel_rfl
@[go_sem] theorem pr50_1 : prtT Try.prog 50 1 = some (1, 1, 2) := by kernel_rfl
@[go_sem] theorem fl50_2 : fldT Try.prog 50 2 = some (2, 1, false) := by kernel_rfl
@[go_sem] theorem pr50_2 : prtT Try.prog 50 2 = some (2, 1, 9) := by kernel_rfl
@[go_sem] theorem fl50_3 : fldT Try.prog 50 3 = some (3, 1, false) := by kernel_rfl
@[go_sem] theorem pr50_3 : prtT Try.prog 50 3 = some (3, 1, 47) := by kernel_rfl
@[go_sem] theorem fl50_4 : fldT Try.prog 50 4 = some (4, 1, false) := by kernel_rfl
@[go_sem] theorem pr50_4 : prtT Try.prog 50 4 = some (4, 1, 28) := by kernel_rfl
@[go_sem] theorem fl50_5 : fldT Try.prog 50 5 = some (5, 1, false) := by kernel_rfl
@[go_sem] theorem pr50_5 : prtT Try.prog 50 5 = some (5, 1, 48) := by kernel_rfl
@[go_sem] theorem fl50_6 : fldT Try.prog 50 6 = some (6, 1, false) := by kernel_rfl
@[go_sem] theorem pr50_6 : prtT Try.prog 50 6 = some (6, 1, 26) := by kernel_rfl
@[go_sem] theorem fo50 : fieldsOk Try.prog 50 = true := by kernel_rfl
@[go_sem] theorem ze50 : zeroT Try.prog 50 = some [.int .i64 0, .int .i64 0, .str [], .nil 7, .nil 2, .nil 9, .nil 1] := by kernel_rfl
@[go_sem] theorem sz58 : szT Try.prog 58 = some 2 := by kernel_rfl
@[go_sem] theorem ag58 : aggT Try.prog 58 = some true := by kernel_rfl
@[go_sem] theorem kd58 : kdT Try.prog 58 = some (.other) := by kernel_rfl
@[go_sem] theorem fl58_0 : fldT Try.prog 58 0 = some (0, 1, false) := by kernel_rfl
@[go_sem] theorem pr58_0 : prtT Try.prog 58 0 = some (0, 1, 3) := by kernel_rfl
@[go_sem] theorem fl58_1 : fldT Try.prog 58 1 = some (1, 1, false) := by kernel_rfl
@[go_sem] theorem pr58_1 : prtT Try.prog 58 1 = some (1, 1, 9) := by kernel_rfl
@[go_sem] theorem fo58 : fieldsOk Try.prog 58 = true := by kernel_rfl
@[go_sem] theorem eqs58 (a0 b0 : Int) (a1 b1 : List UInt8) : eqStT Try.prog 6 58 [.int .i64 a0, .str a1] [.int .i64 b0, .str b1] = some ((decide (a0 = b0)) && ((decide (a1 = b1)) && true)) := by kernel_rfl
@[go_sem] theorem eqg58 : Go.Program.eqGuardType Try.prog (Go.Program.depth Try.prog) 58 = false := by kernel_rfl
@[go_sem] theorem ze58 : zeroT Try.prog 58 = some [.int .i64 0, .str []] := by kernel_rfl
@[go_sem] theorem sz59 : szT Try.prog 59 = some 2 := by kernel_rfl
@[go_sem] theorem ag59 : aggT Try.prog 59 = some true := by kernel_rfl
@[go_sem] theorem kd59 : kdT Try.prog 59 = some (.other) := by kernel_rfl
@[go_sem] theorem fl59_0 : fldT Try.prog 59 0 = some (0, 1, false) := by kernel_rfl
@[go_sem] theorem pr59_0 : prtT Try.prog 59 0 = some (0, 1, 3) := by kernel_rfl
@[go_sem] theorem fl59_1 : fldT Try.prog 59 1 = some (1, 1, false) := by kernel_rfl
@[go_sem] theorem pr59_1 : prtT Try.prog 59 1 = some (1, 1, 9) := by kernel_rfl
@[go_sem] theorem fo59 : fieldsOk Try.prog 59 = true := by kernel_rfl
@[go_sem] theorem eqs59 (a0 b0 : Int) (a1 b1 : List UInt8) : eqStT Try.prog 6 59 [.int .i64 a0, .str a1] [.int .i64 b0, .str b1] = some ((decide (a0 = b0)) && ((decide (a1 = b1)) && true)) := by kernel_rfl
@[go_sem] theorem eqg59 : Go.Program.eqGuardType Try.prog (Go.Program.depth Try.prog) 59 = false := by kernel_rfl
@[go_sem] theorem ze59 : zeroT Try.prog 59 = some [.int .i64 0, .str []] := by kernel_rfl
@[go_sem] theorem sz69 : szT Try.prog 69 = some 1 := by kernel_rfl
@[go_sem] theorem ag69 : aggT Try.prog 69 = some false := by kernel_rfl
@[go_sem] theorem kd69 : kdT Try.prog 69 = some (.other) := by kernel_rfl
@[go_sem] theorem el69 : elT Try.prog 69 = some (4, true) := by kernel_rfl
@[go_sem] theorem bs69 : bsT Try.prog 69 = some (99, 4) := by kernel_rfl
@[go_sem] theorem by69 : byT Try.prog 69 = some 40 := by kernel_rfl
@[go_sem] theorem ni69 : notInt Try.prog 69 = true := by kernel_rfl
@[go_sem] theorem ze69 : zeroT Try.prog 69 = some [.nil 4] := by kernel_rfl
@[go_sem] theorem sz70 : szT Try.prog 70 = some 2 := by kernel_rfl
@[go_sem] theorem ag70 : aggT Try.prog 70 = some true := by kernel_rfl
@[go_sem] theorem kd70 : kdT Try.prog 70 = some (.other) := by kernel_rfl
@[go_sem] theorem ar70 : arT Try.prog 70 = some (2, 1, false) := by kernel_rfl
@[go_sem] theorem pr70_0 : prtT Try.prog 70 0 = some (0, 1, 3) := by kernel_rfl
@[go_sem] theorem pr70_1 : prtT Try.prog 70 1 = some (1, 1, 3) := by kernel_rfl
@[go_sem] theorem fo70 : fieldsOk Try.prog 70 = true := by kernel_rfl
@[go_sem] theorem ze70 : zeroT Try.prog 70 = some [.int .i64 0, .int .i64 0] := by kernel_rfl
@[go_sem] theorem sz71 : szT Try.prog 71 = some 8 := by kernel_rfl
@[go_sem] theorem ag71 : aggT Try.prog 71 = some true := by kernel_rfl
@[go_sem] theorem kd71 : kdT Try.prog 71 = some (.other) := by kernel_rfl
@[go_sem] theorem fl71_0 : fldT Try.prog 71 0 = some (0, 1, false) := by kernel_rfl
@[go_sem] theorem pr71_0 : prtT Try.prog 71 0 = some (0, 1, 3) := by kernel_rfl
@[go_sem] theorem fl71_1 : fldT Try.prog 71 1 = some (1, 1, false) := by kernel_rfl
@[go_sem] theorem pr71_1 : prtT Try.prog 71 1 = some (1, 1, 2) := by kernel_rfl
@[go_sem] theorem fl71_2 : fldT Try.prog 71 2 = some (2, 1, false) := by kernel_rfl
@[go_sem] theorem pr71_2 : prtT Try.prog 71 2 = some (2, 1, 2) := by kernel_rfl
@[go_sem] theorem fl71_3 : fldT Try.prog 71 3 = some (3, 1, false) := by kernel_rfl
@[go_sem] theorem pr71_3 : prtT Try.prog 71 3 = some (3, 1, 9) := by kernel_rfl
@[go_sem] theorem fl71_4 : fldT Try.prog 71 4 = some (4, 1, false) := by kernel_rfl
@[go_sem] theorem pr71_4 : prtT Try.prog 71 4 = some (4, 1, 22) := by kernel_rfl
@[go_sem] theorem fl71_5 : fldT Try.prog 71 5 = some (5, 1, false) := by kernel_rfl
@[go_sem] theorem pr71_5 : prtT Try.prog 71 5 = some (5, 1, 69) := by kernel_rfl
@[go_sem] theorem fl71_6 : fldT Try.prog 71 6 = some (6, 2, true) := by kernel_rfl
@[go_sem] theorem pr71_6 : prtT Try.prog 71 6 = some (6, 2, 70) := by kernel_rfl
@[go_sem] theorem fo71 : fieldsOk Try.prog 71 = true := by kernel_rfl
@[go_sem] theorem ze71 : zeroT Try.prog 71 = some [.int .i64 0, .int .i64 0, .int .i64 0, .str [], .nil 1, .nil 4, .int .i64 0, .int .i64 0] := by kernel_rfl
@[go_sem] theorem sz72 : szT Try.prog 72 = some 8 := by kernel_rfl
@[go_sem] theorem ag72 : aggT Try.prog 72 = some true := by kernel_rfl
@[go_sem] theorem kd72 : kdT Try.prog 72 = some (.other) := by kernel_rfl
@[go_sem] theorem fl72_0 : fldT Try.prog 72 0 = some (0, 1, false) := by kernel_rfl
@[go_sem] theorem pr72_0 : prtT Try.prog 72 0 = some (0, 1, 3) := by kernel_rfl
@[go_sem] theorem fl72_1 : fldT Try.prog 72 1 = some (1, 1, false) := by kernel_rfl
@[go_sem] theorem pr72_1 : prtT Try.prog 72 1 = some (1, 1, 2) := by kernel_rfl
@[go_sem] theorem fl72_2 : fldT Try.prog 72 2 = some (2, 1, false) := by kernel_rfl
@[go_sem] theorem pr72_2 : prtT Try.prog 72 2 = some (2, 1, 2) := by kernel_rfl
@[go_sem] theorem fl72_3 : fldT Try.prog 72 3 = some (3, 1, false) := by kernel_rfl
@[go_sem] theorem pr72_3 : prtT Try.prog 72 3 = some (3, 1, 9) := by kernel_rfl
@[go_sem] theorem fl72_4 : fldT Try.prog 72 4 = some (4, 1, false) := by kernel_rfl
@[go_sem] theorem pr72_4 : prtT Try.prog 72 4 = some (4, 1, 22) := by kernel_rfl
@[go_sem] theorem fl72_5 : fldT Try.prog 72 5 = some (5, 1, false) := by kernel_rfl
@[go_sem] theorem pr72_5 : prtT Try.prog 72 5 = some (5, 1, 69) := by kernel_rfl
@[go_sem] theorem fl72_6 : fldT Try.prog 72 6 = some (6, 2, true) := by kernel_rfl
@[go_sem] theorem pr72_6 : prtT Try.prog 72 6 = some (6, 2, 70) := by kernel_rfl
@[go_sem] theorem fo72 : fieldsOk Try.prog 72 = true := by kernel_rfl
@[go_sem] theorem ze72 : zeroT Try.prog 72 = some [.int .i64 0, .int .i64 0, .int .i64 0, .str [], .nil 1, .nil 4, .int .i64 0, .int .i64 0] := by kernel_rfl
@[go_sem] theorem sz84 : szT Try.prog 84 = some 1 := by kernel_rfl
@[go_sem] theorem ag84 : aggT Try.prog 84 = some false := by kernel_rfl
@[go_sem] theorem kd84 : kdT Try.prog 84 = some (.int .i64) := by kernel_rfl
@[go_sem] theorem ze84 : zeroT Try.prog 84 = some [.int .i64 0] := by kernel_rfl
@[go_sem] theorem sz94 : szT Try.prog 94 = some 1 := by kernel_rfl
@[go_sem] theorem ag94 : aggT Try.prog 94 = some false := by kernel_rfl
@[go_sem] theorem kd94 : kdT Try.prog 94 = some (.other) := by kernel_rfl
@[go_sem] theorem el94 : elT Try.prog 94 = some (1, false) := by kernel_rfl
@[go_sem] theorem bs94 : bsT Try.prog 94 = some (2, 1) := by kernel_rfl
@[go_sem] theorem by94 : byT Try.prog 94 = some 8 := by kernel_rfl
@[go_sem] theorem ni94 : notInt Try.prog 94 = true := by kernel_rfl
@[go_sem] theorem ze94 : zeroT Try.prog 94 = some [.nil 1] := by kernel_rfl
@[go_sem] theorem sz98 : szT Try.prog 98 = some 4 := by kernel_rfl
@[go_sem] theorem ag98 : aggT Try.prog 98 = some true := by kernel_rfl
@[go_sem] theorem kd98 : kdT Try.prog 98 = some (.other) := by kernel_rfl
@[go_sem] theorem fl98_0 : fldT Try.prog 98 0 = some (0, 2, true) := by kernel_rfl
@[go_sem] theorem pr98_0 : prtT Try.prog 98 0 = some (0, 2, 59) := by kernel_rfl
@[go_sem] theorem fl98_1 : fldT Try.prog 98 1 = some (2, 1, false) := by kernel_rfl
@[go_sem] theorem pr98_1 : prtT Try.prog 98 1 = some (2, 1, 3) := by kernel_rfl
@[go_sem] theorem fl98_2 : fldT Try.prog 98 2 = some (3, 1, false) := by kernel_rfl
@[go_sem] theorem pr98_2 : prtT Try.prog 98 2 = some (3, 1, 4) := by kernel_rfl
@[go_sem] theorem fo98 : fieldsOk Try.prog 98 = true := by kernel_rfl
@[go_sem] theorem eqs98 (a0 b0 : Int) (a1 b1 : List UInt8) (a2 b2 : Int) (a3 b3 : Bool) : eqStT Try.prog 6 98 [.int .i64 a0, .str a1, .int .i64 a2, .bool a3] [.int .i64 b0, .str b1, .int .i64 b2, .bool b3] = some (((decide (a0 = b0)) && ((decide (a1 = b1)) && true)) && ((decide (a2 = b2)) && ((a3 == b3) && true))) := by kernel_rfl
@[go_sem] theorem eqg98 : Go.Program.eqGuardType Try.prog (Go.Program.depth Try.prog) 98 = false := by kernel_rfl
@[go_sem] theorem ze98 : zeroT Try.prog 98 = some [.int .i64 0, .str [], .int .i64 0, .bool false] := by kernel_rfl
@[go_sem] theorem sz99 : szT Try.prog 99 = some 4 := by kernel_rfl
@[go_sem] theorem ag99 : aggT Try.prog 99 = some true := by kernel_rfl
@[go_sem] theorem kd99 : kdT Try.prog 99 = some (.other) := by kernel_rfl
@[go_sem] theorem fl99_0 : fldT Try.prog 99 0 = some (0, 2, true) := by kernel_rfl
@[go_sem] theorem pr99_0 : prtT Try.prog 99 0 = some (0, 2, 59) := by kernel_rfl
@[go_sem] theorem fl99_1 : fldT Try.prog 99 1 = some (2, 1, false) := by kernel_rfl
@[go_sem] theorem pr99_1 : prtT Try.prog 99 1 = some (2, 1, 3) := by kernel_rfl
@[go_sem] theorem fl99_2 : fldT Try.prog 99 2 = some (3, 1, false) := by kernel_rfl
@[go_sem] theorem pr99_2 : prtT Try.prog 99 2 = some (3, 1, 4) := by kernel_rfl
@[go_sem] theorem fo99 : fieldsOk Try.prog 99 = true := by kernel_rfl
@[go_sem] theorem eqs99 (a0 b0 : Int) (a1 b1 : List UInt8) (a2 b2 : Int) (a3 b3 : Bool) : eqStT Try.prog 6 99 [.int .i64 a0, .str a1, .int .i64 a2, .bool a3] [.int .i64 b0, .str b1, .int .i64 b2, .bool b3] = some (((decide (a0 = b0)) && ((decide (a1 = b1)) && true)) && ((decide (a2 = b2)) && ((a3 == b3) && true))) := by kernel_rfl
@[go_sem] theorem eqg99 : Go.Program.eqGuardType Try.prog (Go.Program.depth Try.prog) 99 = false := by kernel_rfl
@[go_sem] theorem ze99 : zeroT Try.prog 99 = some [.int .i64 0, .str [], .int .i64 0, .bool false] := by kernel_rfl
@[go_sem] theorem sz105 : szT Try.prog 105 = some 9 := by kernel_rfl
@[go_sem] theorem ag105 : aggT Try.prog 105 = some true := by kernel_rfl
@[go_sem] theorem kd105 : kdT Try.prog 105 = some (.other) := by kernel_rfl
@[go_sem] theorem fl105_0 : fldT Try.prog 105 0 = some (0, 1, false) := by kernel_rfl
@[go_sem] theorem pr105_0 : prtT Try.prog 105 0 = some (0, 1, 47) := by kernel_rfl
@[go_sem] theorem fl105_1 : fldT Try.prog 105 1 = some (1, 1, false) := by kernel_rfl
@[go_sem] theorem pr105_1 : prtT Try.prog 105 1 = some (1, 1, 4) := by kernel_rfl
@[go_sem] theorem fl105_2 : fldT Try.prog 105 2 = some (2, 7, true) := by kernel_rfl
@[go_sem] theorem pr105_2 : prtT Try.prog 105 2 = some (2, 7, 50) := by kernel_rfl
@[go_sem] theorem fo105 : fieldsOk Try.prog 105 = true := by kernel_rfl
@[go_sem] theorem ze105 : zeroT Try.prog 105 = some [.nil 7, .bool false, .int .i64 0, .int .i64 0, .str [], .nil 7, .nil 2, .nil 9, .nil 1] := by kernel_rfl
@[go_sem] theorem sz106 : szT Try.prog 106 = some 9 := by kernel_rfl
@[go_sem] theorem ag106 : aggT Try.prog 106 = some true := by kernel_rfl
@[go_sem] theorem kd106 : kdT Try.prog 106 = some (.other) := by kernel_rfl
@[go_sem] theorem fl106_0 : fldT Try.prog 106 0 = some (0, 1, false) := by kernel_rfl
@[go_sem] theorem pr106_0 : prtT Try.prog 106 0 = some (0, 1, 47) := by kernel_rfl
@[go_sem] theorem fl106_1 : fldT Try.prog 106 1 = some (1, 1, false) := by kernel_rfl
@[go_sem] theorem pr106_1 : prtT Try.prog 106 1 = some (1, 1, 4) := by kernel_rfl
@[go_sem] theorem fl106_2 : fldT Try.prog 106 2 = some (2, 7, true) := by kernel_rfl
@[go_sem] theorem pr106_2 : prtT Try.prog 106 2 = some (2, 7, 50) := by kernel_rfl
@[go_sem] theorem fo106 : fieldsOk Try.prog 106 = true := by kernel_rfl
@[go_sem] theorem ze106 : zeroT Try.prog 106 = some [.nil 7, .bool false, .int .i64 0, .int .i64 0, .str [], .nil 7, .nil 2, .nil 9, .nil 1] := by kernel_rfl
@[go_sem] theorem sz122 : szT Try.prog 122 = some 1 := by kernel_rfl
@[go_sem] theorem ag122 : aggT Try.prog 122 = some false := by kernel_rfl
@[go_sem] theorem kd122 : kdT Try.prog 122 = some (.int .u64) := by kernel_rfl
@[go_sem] theorem ze122 : zeroT Try.prog 122 = some [.int .u64 0] := by kernel_rfl
@[go_sem] theorem sz141 : szT Try.prog 141 = some 5 := by kernel_rfl
@[go_sem] theorem ag141 : aggT Try.prog 141 = some true := by kernel_rfl
@[go_sem] theorem kd141 : kdT Try.prog 141 = some (.other) := by kernel_rfl
@[go_sem] theorem fl141_0 : fldT Try.prog 141 0 = some (0, 1, false) := by kernel_rfl
@[go_sem] theorem pr141_0 : prtT Try.prog 141 0 = some (0, 1, 4) := by kernel_rfl
@[go_sem] theorem fl141_1 : fldT Try.prog 141 1 = some (1, 1, false) := by kernel_rfl
@[go_sem] theorem pr141_1 : prtT Try.prog 141 1 = some (1, 1, 4) := by kernel_rfl
@[go_sem] theorem fl141_2 : fldT Try.prog 141 2 = some (2, 1, false) := by kernel_rfl
@[go_sem] theorem pr141_2 : prtT Try.prog 141 2 = some (2, 1, 4) := by kernel_rfl
@[go_sem] theorem fl141_3 : fldT Try.prog 141 3 = some (3, 1, false) := by kernel_rfl
@[go_sem] theorem pr141_3 : prtT Try.prog 141 3 = some (3, 1, 4) := by kernel_rfl
@[go_sem] theorem fl141_4 : fldT Try.prog 141 4 = some (4, 1, false) := by kernel_rfl
@[go_sem] theorem pr141_4 : prtT Try.prog 141 4 = some (4, 1, 4) := by kernel_rfl
@[go_sem] theorem fo141 : fieldsOk Try.prog 141 = true := by kernel_rfl
@[go_sem] theorem eqs141 (a0 b0 : Bool) (a1 b1 : Bool) (a2 b2 : Bool) (a3 b3 : Bool) (a4 b4 : Bool) : eqStT Try.prog 6 141 [.bool a0, .bool a1, .bool a2, .bool a3, .bool a4] [.bool b0, .bool b1, .bool b2, .bool b3, .bool b4] = some ((a0 == b0) && ((a1 == b1) && ((a2 == b2) && ((a3 == b3) && ((a4 == b4) && true))))) := by kernel_rfl
@[go_sem] theorem eqg141 : Go.Program.eqGuardType Try.prog (Go.Program.depth Try.prog) 141 = false := by kernel_rfl
@[go_sem] theorem ze141 : zeroT Try.prog 141 = some [.bool false, .bool false, .bool false, .bool false, .bool false] := by kernel_rfl
@[go_sem] theorem sz142 : szT Try.prog 142 = some 5 := by kernel_rfl
@[go_sem] theorem ag142 : aggT Try.prog 142 = some true := by kernel_rfl
@[go_sem] theorem kd142 : kdT Try.prog 142 = some (.other) := by kernel_rfl
@[go_sem] theorem fl142_0 : fldT Try.prog 142 0 = some (0, 1, false) := by kernel_rfl
@[go_sem] theorem pr142_0 : prtT Try.prog 142 0 = some (0, 1, 4) := by kernel_rfl
@[go_sem] theorem fl142_1 : fldT Try.prog 142 1 = some (1, 1, false) := by kernel_rfl
@[go_sem] theorem pr142_1 : prtT Try.prog 142 1 = some (1, 1, 4) := by kernel_rfl
@[go_sem] theorem fl142_2 : fldT Try.prog 142 2 = some (2, 1, false) := by kernel_rfl
@[go_sem] theorem pr142_2 : prtT Try.prog 142 2 = some (2, 1, 4) := by kernel_rfl
@[go_sem] theorem fl142_3 : fldT Try.prog 142 3 = some (3, 1, false) := by kernel_rfl
@[go_sem] theorem pr142_3 : prtT Try.prog 142 3 = some (3, 1, 4) := by kernel_rfl
@[go_sem] theorem fl142_4 : fldT Try.prog 142 4 = some (4, 1, false) := by kernel_rfl
@[go_sem] theorem pr142_4 : prtT Try.prog 142 4 = some (4, 1, 4) := by kernel_rfl
@[go_sem] theorem fo142 : fieldsOk Try.prog 142 = true := by kernel_rfl
@[go_sem] theorem ze142 : zeroT Try.prog 142 = some [.bool false, .bool false, .bool false, .bool false, .bool false] := by kernel_rfl
@[go_sem] theorem sz154 : szT Try.prog 154 = some 4 := by kernel_rfl
@[go_sem] theorem ag154 : aggT Try.prog 154 = some true := by kernel_rfl
@[go_sem] theorem kd154 : kdT Try.prog 154 = some (.other) := by kernel_rfl
@[go_sem] theorem fl154_0 : fldT Try.prog 154 0 = some (0, 1, false) := by kernel_rfl
@[go_sem] theorem pr154_0 : prtT Try.prog 154 0 = some (0, 1, 17) := by kernel_rfl
@[go_sem] theorem fl154_1 : fldT Try.prog 154 1 = some (1, 1, false) := by kernel_rfl
@[go_sem] theorem pr154_1 : prtT Try.prog 154 1 = some (1, 1, 17) := by kernel_rfl
@[go_sem] theorem fl154_2 : fldT Try.prog 154 2 = some (2, 1, false) := by kernel_rfl
@[go_sem] theorem pr154_2 : prtT Try.prog 154 2 = some (2, 1, 17) := by kernel_rfl
@[go_sem] theorem fl154_3 : fldT Try.prog 154 3 = some (3, 1, false) := by kernel_rfl
@[go_sem] theorem pr154_3 : prtT Try.prog 154 3 = some (3, 1, 9) := by kernel_rfl
@[go_sem] theorem fo154 : fieldsOk Try.prog 154 = true := by kernel_rfl
@[go_sem] theorem sz155 : szT Try.prog 155 = some 4 := by kernel_rfl
@[go_sem] theorem ag155 : aggT Try.prog 155 = some true := by kernel_rfl
@[go_sem] theorem kd155 : kdT Try.prog 155 = some (.other) := by kernel_rfl
@[go_sem] theorem fl155_0 : fldT Try.prog 155 0 = some (0, 1, false) := by kernel_rfl
@[go_sem] theorem pr155_0 : prtT Try.prog 155 0 = some (0, 1, 17) := by kernel_rfl
@[go_sem] theorem fl155_1 : fldT Try.prog 155 1 = some (1, 1, false) := by kernel_rfl
@[go_sem] theorem pr155_1 : prtT Try.prog 155 1 = some (1, 1, 17) := by kernel_rfl
@[go_sem] theorem fl155_2 : fldT Try.prog 155 2 = some (2, 1, false) := by kernel_rfl
@[go_sem] theorem pr155_2 : prtT Try.prog 155 2 = some (2, 1, 17) := by kernel_rfl
@[go_sem] theorem fl155_3 : fldT Try.prog 155 3 = some (3, 1, false) := by kernel_rfl
@[go_sem] theorem pr155_3 : prtT Try.prog 155 3 = some (3, 1, 9) := by kernel_rfl
@[go_sem] theorem fo155 : fieldsOk Try.prog 155 = true := by kernel_rfl
@[go_sem] theorem sz156 : szT Try.prog 156 = some 0 := by kernel_rfl
@[go_sem] theorem ag156 : aggT Try.prog 156 = some true := by kernel_rfl
@[go_sem] theorem kd156 : kdT Try.prog 156 = some (.other) := by kernel_rfl
@[go_sem] theorem ar156 : arT Try.prog 156 = some (0, 1, false) := by kernel_rfl
@[go_sem] theorem fo156 : fieldsOk Try.prog 156 = true := by kernel_rfl
@[go_sem] theorem sz157 : szT Try.prog 157 = some 0 := by kernel_rfl
@[go_sem] theorem ag157 : aggT Try.prog 157 = some true := by kernel_rfl
@[go_sem] theorem kd157 : kdT Try.prog 157 = some (.other) := by kernel_rfl
@[go_sem] theorem pr157_0 : prtT Try.prog 157 0 = some (0, 0, 156) := by kernel_rfl
@[go_sem] theorem fo157 : fieldsOk Try.prog 157 = true := by kernel_rfl
@[go_sem] theorem sz158 : szT Try.prog 158 = some 0 := by kernel_rfl
@[go_sem] theorem ag158 : aggT Try.prog 158 = some true := by kernel_rfl
@[go_sem] theorem kd158 : kdT Try.prog 158 = some (.other) := by kernel_rfl
@[go_sem] theorem pr158_0 : prtT Try.prog 158 0 = some (0, 0, 156) := by kernel_rfl
@[go_sem] theorem fo158 : fieldsOk Try.prog 158 = true := by kernel_rfl
@[go_sem] theorem sz160 : szT Try.prog 160 = some 1 := by kernel_rfl
@[go_sem] theorem ag160 : aggT Try.prog 160 = some false := by kernel_rfl
@[go_sem] theorem kd160 : kdT Try.prog 160 = some (.int .u32) := by kernel_rfl
@[go_sem] theorem ze160 : zeroT Try.prog 160 = some [.int .u32 0] := by kernel_rfl
@[go_sem] theorem sz161 : szT Try.prog 161 = some 1 := by kernel_rfl
@[go_sem] theorem ag161 : aggT Try.prog 161 = some false := by kernel_rfl
@[go_sem] theorem kd161 : kdT Try.prog 161 = some (.int .u8) := by kernel_rfl
@[go_sem] theorem ze161 : zeroT Try.prog 161 = some [.int .u8 0] := by kernel_rfl
@[go_sem] theorem sz162 : szT Try.prog 162 = some 1 := by kernel_rfl
@[go_sem] theorem ag162 : aggT Try.prog 162 = some false := by kernel_rfl
@[go_sem] theorem kd162 : kdT Try.prog 162 = some (.int .u8) := by kernel_rfl
@[go_sem] theorem ze162 : zeroT Try.prog 162 = some [.int .u8 0] := by kernel_rfl
@[go_sem] theorem sz164 : szT Try.prog 164 = some 1 := by kernel_rfl
@[go_sem] theorem ag164 : aggT Try.prog 164 = some false := by kernel_rfl
@[go_sem] theorem kd164 : kdT Try.prog 164 = some (.other) := by kernel_rfl
@[go_sem] theorem sz165 : szT Try.prog 165 = some 1 := by kernel_rfl
@[go_sem] theorem ag165 : aggT Try.prog 165 = some false := by kernel_rfl
@[go_sem] theorem kd165 : kdT Try.prog 165 = some (.int .i32) := by kernel_rfl
@[go_sem] theorem ze165 : zeroT Try.prog 165 = some [.int .i32 0] := by kernel_rfl
@[go_sem] theorem sz166 : szT Try.prog 166 = some 1 := by kernel_rfl
@[go_sem] theorem ag166 : aggT Try.prog 166 = some false := by kernel_rfl
@[go_sem] theorem kd166 : kdT Try.prog 166 = some (.int .i32) := by kernel_rfl
@[go_sem] theorem ze166 : zeroT Try.prog 166 = some [.int .i32 0] := by kernel_rfl
@[go_sem] theorem sz167 : szT Try.prog 167 = some 11 := by kernel_rfl
@[go_sem] theorem ag167 : aggT Try.prog 167 = some true := by kernel_rfl
@[go_sem] theorem kd167 : kdT Try.prog 167 = some (.other) := by kernel_rfl
@[go_sem] theorem fl167_0 : fldT Try.prog 167 0 = some (0, 1, false) := by kernel_rfl
@[go_sem] theorem pr167_0 : prtT Try.prog 167 0 = some (0, 1, 12) := by kernel_rfl
@[go_sem] theorem fl167_1 : fldT Try.prog 167 1 = some (1, 1, false) := by kernel_rfl
@[go_sem] theorem pr167_1 : prtT Try.prog 167 1 = some (1, 1, 12) := by kernel_rfl
@[go_sem] theorem fl167_2 : fldT Try.prog 167 2 = some (2, 1, false) := by kernel_rfl
@[go_sem] theorem pr167_2 : prtT Try.prog 167 2 = some (2, 1, 160) := by kernel_rfl
@[go_sem] theorem fl167_3 : fldT Try.prog 167 3 = some (3, 1, false) := by kernel_rfl
@[go_sem] theorem pr167_3 : prtT Try.prog 167 3 = some (3, 1, 161) := by kernel_rfl
@[go_sem] theorem fl167_4 : fldT Try.prog 167 4 = some (4, 1, false) := by kernel_rfl
@[go_sem] theorem pr167_4 : prtT Try.prog 167 4 = some (4, 1, 5) := by kernel_rfl
@[go_sem] theorem fl167_5 : fldT Try.prog 167 5 = some (5, 1, false) := by kernel_rfl
@[go_sem] theorem pr167_5 : prtT Try.prog 167 5 = some (5, 1, 5) := by kernel_rfl
@[go_sem] theorem fl167_6 : fldT Try.prog 167 6 = some (6, 1, false) := by kernel_rfl
@[go_sem] theorem pr167_6 : prtT Try.prog 167 6 = some (6, 1, 162) := by kernel_rfl
@[go_sem] theorem fl167_8 : fldT Try.prog 167 8 = some (8, 1, false) := by kernel_rfl
@[go_sem] theorem pr167_8 : prtT Try.prog 167 8 = some (8, 1, 164) := by kernel_rfl
@[go_sem] theorem fl167_9 : fldT Try.prog 167 9 = some (9, 1, false) := by kernel_rfl
@[go_sem] theorem pr167_9 : prtT Try.prog 167 9 = some (9, 1, 165) := by kernel_rfl
@[go_sem] theorem fl167_10 : fldT Try.prog 167 10 = some (10, 1, false) := by kernel_rfl
@[go_sem] theorem pr167_10 : prtT Try.prog 167 10 = some (10, 1, 166) := by kernel_rfl
@[go_sem] theorem sz168 : szT Try.prog 168 = some 11 := by kernel_rfl
@[go_sem] theorem ag168 : aggT Try.prog 168 = some true := by kernel_rfl
@[go_sem] theorem kd168 : kdT Try.prog 168 = some (.other) := by kernel_rfl
@[go_sem] theorem fl168_0 : fldT Try.prog 168 0 = some (0, 1, false) := by kernel_rfl
@[go_sem] theorem pr168_0 : prtT Try.prog 168 0 = some (0, 1, 12) := by kernel_rfl
@[go_sem] theorem fl168_1 : fldT Try.prog 168 1 = some (1, 1, false) := by kernel_rfl
@[go_sem] theorem pr168_1 : prtT Try.prog 168 1 = some (1, 1, 12) := by kernel_rfl
@[go_sem] theorem fl168_2 : fldT Try.prog 168 2 = some (2, 1, false) := by kernel_rfl
@[go_sem] theorem pr168_2 : prtT Try.prog 168 2 = some (2, 1, 160) := by kernel_rfl
@[go_sem] theorem fl168_3 : fldT Try.prog 168 3 = some (3, 1, false) := by kernel_rfl
@[go_sem] theorem pr168_3 : prtT Try.prog 168 3 = some (3, 1, 161) := by kernel_rfl
@[go_sem] theorem fl168_4 : fldT Try.prog 168 4 = some (4, 1, false) := by kernel_rfl
@[go_sem] theorem pr168_4 : prtT Try.prog 168 4 = some (4, 1, 5) := by kernel_rfl
@[go_sem] theorem fl168_5 : fldT Try.prog 168 5 = some (5, 1, false) := by kernel_rfl
@[go_sem] theorem pr168_5 : prtT Try.prog 168 5 = some (5, 1, 5) := by kernel_rfl
@[go_sem] theorem fl168_6 : fldT Try.prog 168 6 = some (6, 1, false) := by kernel_rfl
@[go_sem] theorem pr168_6 : prtT Try.prog 168 6 = some (6, 1, 162) := by kernel_rfl
@[go_sem] theorem fl168_8 : fldT Try.prog 168 8 = some (8, 1, false) := by kernel_rfl
@[go_sem] theorem pr168_8 : prtT Try.prog 168 8 = some (8, 1, 164) := by kernel_rfl
@[go_sem] theorem fl168_9 : fldT Try.prog 168 9 = some (9, 1, false) := by kernel_rfl
@[go_sem] theorem pr168_9 : prtT Try.prog 168 9 = some (9, 1, 165) := by kernel_rfl
@[go_sem] theorem fl168_10 : fldT Try.prog 168 10 = some (10, 1, false) := by kernel_rfl
@[go_sem] theorem pr168_10 : prtT Try.prog 168 10 = some (10, 1, 166) := by kernel_rfl
@[go_sem] theorem sz169 : szT Try.prog 169 = some 1 := by kernel_rfl
@[go_sem] theorem ag169 : aggT Try.prog 169 = some false := by kernel_rfl
@[go_sem] theorem kd169 : kdT Try.prog 169 = some (.other) := by kernel_rfl
end Go.Proofs.Ytmpfdejckbceiaa
