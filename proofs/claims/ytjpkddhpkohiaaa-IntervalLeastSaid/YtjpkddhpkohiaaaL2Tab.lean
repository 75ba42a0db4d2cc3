/-
  The tables of the types of this translation, by the kernel. Written by a program of the prover's (gentab.py). No conditions.
-/
import Derived.Test.YtjpkddhpkohiaaaProg
import Derived.Test.YtjpkddhpkohiaaaSxVc
namespace Go.Proofs.Ytjpkddhpkohiaaa
open Go Go.Sx
theorem mixed : Try.prog.follows .mixedOrders = true := by kernel_rfl
@[go_sem] theorem sz2 : szT Try.prog 2 = some 1 := by kernel_rfl
@[go_sem] theorem ag2 : aggT Try.prog 2 = some false := by kernel_rfl
@[go_sem] theorem kd2 : kdT Try.prog 2 = some (.int .i64) := by kernel_rfl
@[go_sem] theorem ze2 : zeroT Try.prog 2 = some [.int .i64 0] := by kernel_rfl
@[go_sem] theorem sz3 : szT Try.prog 3 = some 1 := by kernel_rfl
@[go_sem] theorem ag3 : aggT Try.prog 3 = some false := by kernel_rfl
@[go_sem] theorem kd3 : kdT Try.prog 3 = some (.int .i64) := by kernel_rfl
@[go_sem] theorem ze3 : zeroT Try.prog 3 = some [.int .i64 0] := by kernel_rfl
@[go_sem] theorem sz4 : szT Try.prog 4 = some 1 := by kernel_rfl
@[go_sem] theorem ag4 : aggT Try.prog 4 = some false := by kernel_rfl
@[go_sem] theorem kd4 : kdT Try.prog 4 = some (.bool) := by kernel_rfl
@[go_sem] theorem ze4 : zeroT Try.prog 4 = some [.bool false] := by kernel_rfl
@[go_sem] theorem sz5 : szT Try.prog 5 = some 1 := by kernel_rfl
@[go_sem] theorem ag5 : aggT Try.prog 5 = some false := by kernel_rfl
@[go_sem] theorem kd5 : kdT Try.prog 5 = some (.int .u8) := by kernel_rfl
@[go_sem] theorem ze5 : zeroT Try.prog 5 = some [.int .u8 0] := by kernel_rfl
@[go_sem] theorem sz6 : szT Try.prog 6 = some 1 := by kernel_rfl
@[go_sem] theorem ag6 : aggT Try.prog 6 = some false := by kernel_rfl
@[go_sem] theorem kd6 : kdT Try.prog 6 = some (.int .u8) := by kernel_rfl
@[go_sem] theorem ze6 : zeroT Try.prog 6 = some [.int .u8 0] := by kernel_rfl
@[go_sem] theorem sz7 : szT Try.prog 7 = some 4 := by kernel_rfl
@[go_sem] theorem ag7 : aggT Try.prog 7 = some true := by kernel_rfl
@[go_sem] theorem kd7 : kdT Try.prog 7 = some (.other) := by kernel_rfl
@[go_sem] theorem fl7_0 : fldT Try.prog 7 0 = some (0, 1, false) := by kernel_rfl
@[go_sem] theorem pr7_0 : prtT Try.prog 7 0 = some (0, 1, 2) := by kernel_rfl
@[go_sem] theorem fl7_1 : fldT Try.prog 7 1 = some (1, 1, false) := by kernel_rfl
@[go_sem] theorem pr7_1 : prtT Try.prog 7 1 = some (1, 1, 3) := by kernel_rfl
@[go_sem] theorem fl7_2 : fldT Try.prog 7 2 = some (2, 1, false) := by kernel_rfl
@[go_sem] theorem pr7_2 : prtT Try.prog 7 2 = some (2, 1, 4) := by kernel_rfl
@[go_sem] theorem fl7_3 : fldT Try.prog 7 3 = some (3, 1, false) := by kernel_rfl
@[go_sem] theorem pr7_3 : prtT Try.prog 7 3 = some (3, 1, 6) := by kernel_rfl
@[go_sem] theorem fo7 : fieldsOk Try.prog 7 = true := by kernel_rfl
@[go_sem] theorem ze7 : zeroT Try.prog 7 = some [.int .i64 0, .int .i64 0, .bool false, .int .u8 0] := by kernel_rfl
@[go_sem] theorem sz8 : szT Try.prog 8 = some 4 := by kernel_rfl
@[go_sem] theorem ag8 : aggT Try.prog 8 = some true := by kernel_rfl
@[go_sem] theorem kd8 : kdT Try.prog 8 = some (.other) := by kernel_rfl
@[go_sem] theorem fl8_0 : fldT Try.prog 8 0 = some (0, 1, false) := by kernel_rfl
@[go_sem] theorem pr8_0 : prtT Try.prog 8 0 = some (0, 1, 2) := by kernel_rfl
@[go_sem] theorem fl8_1 : fldT Try.prog 8 1 = some (1, 1, false) := by kernel_rfl
@[go_sem] theorem pr8_1 : prtT Try.prog 8 1 = some (1, 1, 3) := by kernel_rfl
@[go_sem] theorem fl8_2 : fldT Try.prog 8 2 = some (2, 1, false) := by kernel_rfl
@[go_sem] theorem pr8_2 : prtT Try.prog 8 2 = some (2, 1, 4) := by kernel_rfl
@[go_sem] theorem fl8_3 : fldT Try.prog 8 3 = some (3, 1, false) := by kernel_rfl
@[go_sem] theorem pr8_3 : prtT Try.prog 8 3 = some (3, 1, 6) := by kernel_rfl
@[go_sem] theorem fo8 : fieldsOk Try.prog 8 = true := by kernel_rfl
@[go_sem] theorem ze8 : zeroT Try.prog 8 = some [.int .i64 0, .int .i64 0, .bool false, .int .u8 0] := by kernel_rfl
@[go_sem] theorem sz9 : szT Try.prog 9 = some 1 := by kernel_rfl
@[go_sem] theorem ag9 : aggT Try.prog 9 = some false := by kernel_rfl
@[go_sem] theorem kd9 : kdT Try.prog 9 = some (.str) := by kernel_rfl
@[go_sem] theorem ni9 : notInt Try.prog 9 = true := by kernel_rfl
@[go_sem] theorem ze9 : zeroT Try.prog 9 = some [.str []] := by kernel_rfl
@[go_sem] theorem sz10 : szT Try.prog 10 = some 1 := by kernel_rfl
@[go_sem] theorem ag10 : aggT Try.prog 10 = some false := by kernel_rfl
@[go_sem] theorem kd10 : kdT Try.prog 10 = some (.str) := by kernel_rfl
@[go_sem] theorem ni10 : notInt Try.prog 10 = true := by kernel_rfl
@[go_sem] theorem ze10 : zeroT Try.prog 10 = some [.str []] := by kernel_rfl
@[go_sem] theorem sz11 : szT Try.prog 11 = some 1 := by kernel_rfl
@[go_sem] theorem ag11 : aggT Try.prog 11 = some false := by kernel_rfl
@[go_sem] theorem kd11 : kdT Try.prog 11 = some (.str) := by kernel_rfl
@[go_sem] theorem ni11 : notInt Try.prog 11 = true := by kernel_rfl
@[go_sem] theorem ze11 : zeroT Try.prog 11 = some [.str []] := by kernel_rfl
@[go_sem] theorem sz12 : szT Try.prog 12 = some 1 := by kernel_rfl
@[go_sem] theorem ag12 : aggT Try.prog 12 = some false := by kernel_rfl
@[go_sem] theorem kd12 : kdT Try.prog 12 = some (.int .u64) := by kernel_rfl
@[go_sem] theorem ze12 : zeroT Try.prog 12 = some [.int .u64 0] := by kernel_rfl
@[go_sem] theorem sz13 : szT Try.prog 13 = some 2 := by kernel_rfl
@[go_sem] theorem ag13 : aggT Try.prog 13 = some true := by kernel_rfl
@[go_sem] theorem kd13 : kdT Try.prog 13 = some (.other) := by kernel_rfl
@[go_sem] theorem fl13_0 : fldT Try.prog 13 0 = some (0, 1, false) := by kernel_rfl
@[go_sem] theorem pr13_0 : prtT Try.prog 13 0 = some (0, 1, 9) := by kernel_rfl
@[go_sem] theorem fl13_1 : fldT Try.prog 13 1 = some (1, 1, false) := by kernel_rfl
@[go_sem] theorem pr13_1 : prtT Try.prog 13 1 = some (1, 1, 12) := by kernel_rfl
@[go_sem] theorem fo13 : fieldsOk Try.prog 13 = true := by kernel_rfl
@[go_sem] theorem ze13 : zeroT Try.prog 13 = some [.str [], .int .u64 0] := by kernel_rfl
@[go_sem] theorem sz14 : szT Try.prog 14 = some 2 := by kernel_rfl
@[go_sem] theorem ag14 : aggT Try.prog 14 = some true := by kernel_rfl
@[go_sem] theorem kd14 : kdT Try.prog 14 = some (.other) := by kernel_rfl
@[go_sem] theorem fl14_0 : fldT Try.prog 14 0 = some (0, 1, false) := by kernel_rfl
@[go_sem] theorem pr14_0 : prtT Try.prog 14 0 = some (0, 1, 9) := by kernel_rfl
@[go_sem] theorem fl14_1 : fldT Try.prog 14 1 = some (1, 1, false) := by kernel_rfl
@[go_sem] theorem pr14_1 : prtT Try.prog 14 1 = some (1, 1, 12) := by kernel_rfl
@[go_sem] theorem fo14 : fieldsOk Try.prog 14 = true := by kernel_rfl
@[go_sem] theorem ze14 : zeroT Try.prog 14 = some [.str [], .int .u64 0] := by kernel_rfl
@[go_sem] theorem sz15 : szT Try.prog 15 = some 1 := by kernel_rfl
@[go_sem] theorem ag15 : aggT Try.prog 15 = some false := by kernel_rfl
@[go_sem] theorem kd15 : kdT Try.prog 15 = some (.other) := by kernel_rfl
@[go_sem] theorem sz16 : szT Try.prog 16 = some 1 := by kernel_rfl
@[go_sem] theorem ag16 : aggT Try.prog 16 = some false := by kernel_rfl
@[go_sem] theorem kd16 : kdT Try.prog 16 = some (.other) := by kernel_rfl
@[go_sem] theorem sz17 : szT Try.prog 17 = some 1 := by kernel_rfl
@[go_sem] theorem ag17 : aggT Try.prog 17 = some false := by kernel_rfl
@[go_sem] theorem kd17 : kdT Try.prog 17 = some (.other) := by kernel_rfl
@[go_sem] theorem sz18 : szT Try.prog 18 = some 1 := by kernel_rfl
@[go_sem] theorem ag18 : aggT Try.prog 18 = some true := by kernel_rfl
@[go_sem] theorem kd18 : kdT Try.prog 18 = some (.other) := by kernel_rfl
@[go_sem] theorem fl18_0 : fldT Try.prog 18 0 = some (0, 1, false) := by kernel_rfl
@[go_sem] theorem pr18_0 : prtT Try.prog 18 0 = some (0, 1, 17) := by kernel_rfl
@[go_sem] theorem fo18 : fieldsOk Try.prog 18 = true := by kernel_rfl
@[go_sem] theorem sz19 : szT Try.prog 19 = some 1 := by kernel_rfl
@[go_sem] theorem ag19 : aggT Try.prog 19 = some true := by kernel_rfl
@[go_sem] theorem kd19 : kdT Try.prog 19 = some (.other) := by kernel_rfl
@[go_sem] theorem fl19_0 : fldT Try.prog 19 0 = some (0, 1, false) := by kernel_rfl
@[go_sem] theorem pr19_0 : prtT Try.prog 19 0 = some (0, 1, 17) := by kernel_rfl
@[go_sem] theorem fo19 : fieldsOk Try.prog 19 = true := by kernel_rfl
@[go_sem] theorem sz21 : szT Try.prog 21 = some 1 := by kernel_rfl
@[go_sem] theorem ag21 : aggT Try.prog 21 = some false := by kernel_rfl
@[go_sem] theorem kd21 : kdT Try.prog 21 = some (.int .i32) := by kernel_rfl
@[go_sem] theorem ze21 : zeroT Try.prog 21 = some [.int .i32 0] := by kernel_rfl
@[go_sem] theorem sz22 : szT Try.prog 22 = some 1 := by kernel_rfl
@[go_sem] theorem ag22 : aggT Try.prog 22 = some false := by kernel_rfl
@[go_sem] theorem kd22 : kdT Try.prog 22 = some (.other) := by kernel_rfl
@[go_sem] theorem el22 : elT Try.prog 22 = some (2, true) := by kernel_rfl
@[go_sem] theorem bs22 : bsT Try.prog 22 = some (35, 2) := by kernel_rfl
@[go_sem] theorem by22 : byT Try.prog 22 = some 16 := by kernel_rfl
@[go_sem] theorem ni22 : notInt Try.prog 22 = true := by kernel_rfl
@[go_sem] theorem ze22 : zeroT Try.prog 22 = some [.nil 2] := by kernel_rfl
@[go_sem] theorem sz34 : szT Try.prog 34 = some 2 := by kernel_rfl
@[go_sem] theorem ag34 : aggT Try.prog 34 = some true := by kernel_rfl
@[go_sem] theorem kd34 : kdT Try.prog 34 = some (.other) := by kernel_rfl
@[go_sem] theorem fl34_0 : fldT Try.prog 34 0 = some (0, 1, false) := by kernel_rfl
@[go_sem] theorem pr34_0 : prtT Try.prog 34 0 = some (0, 1, 2) := by kernel_rfl
@[go_sem] theorem fl34_1 : fldT Try.prog 34 1 = some (1, 1, false) := by kernel_rfl
@[go_sem] theorem pr34_1 : prtT Try.prog 34 1 = some (1, 1, 2) := by kernel_rfl
@[go_sem] theorem fo34 : fieldsOk Try.prog 34 = true := by kernel_rfl
@[go_sem] theorem eqs34 (a0 b0 : Int) (a1 b1 : Int) : eqStT Try.prog 6 34 [.int .i64 a0, .int .i64 a1] [.int .i64 b0, .int .i64 b1] = some ((decide (a0 = b0)) && ((decide (a1 = b1)) && true)) := by kernel_rfl
@[go_sem] theorem eqg34 : Go.Program.eqGuardType Try.prog (Go.Program.depth Try.prog) 34 = false := by kernel_rfl
@[go_sem] theorem ze34 : zeroT Try.prog 34 = some [.int .i64 0, .int .i64 0] := by kernel_rfl
@[go_sem] theorem sz35 : szT Try.prog 35 = some 2 := by kernel_rfl
@[go_sem] theorem ag35 : aggT Try.prog 35 = some true := by kernel_rfl
@[go_sem] theorem kd35 : kdT Try.prog 35 = some (.other) := by kernel_rfl
@[go_sem] theorem fl35_0 : fldT Try.prog 35 0 = some (0, 1, false) := by kernel_rfl
@[go_sem] theorem pr35_0 : prtT Try.prog 35 0 = some (0, 1, 2) := by kernel_rfl
@[go_sem] theorem fl35_1 : fldT Try.prog 35 1 = some (1, 1, false) := by kernel_rfl
@[go_sem] theorem pr35_1 : prtT Try.prog 35 1 = some (1, 1, 2) := by kernel_rfl
@[go_sem] theorem fo35 : fieldsOk Try.prog 35 = true := by kernel_rfl
@[go_sem] theorem eqs35 (a0 b0 : Int) (a1 b1 : Int) : eqStT Try.prog 6 35 [.int .i64 a0, .int .i64 a1] [.int .i64 b0, .int .i64 b1] = some ((decide (a0 = b0)) && ((decide (a1 = b1)) && true)) := by kernel_rfl
@[go_sem] theorem eqg35 : Go.Program.eqGuardType Try.prog (Go.Program.depth Try.prog) 35 = false := by kernel_rfl
@[go_sem] theorem ze35 : zeroT Try.prog 35 = some [.int .i64 0, .int .i64 0] := by kernel_rfl
@[go_sem] theorem sz36 : szT Try.prog 36 = some 1 := by kernel_rfl
@[go_sem] theorem ag36 : aggT Try.prog 36 = some false := by kernel_rfl
@[go_sem] theorem kd36 : kdT Try.prog 36 = some (.int .u64) := by kernel_rfl
@[go_sem] theorem ze36 : zeroT Try.prog 36 = some [.int .u64 0] := by kernel_rfl
@[go_sem] theorem sz43 : szT Try.prog 43 = some 1 := by kernel_rfl
@[go_sem] theorem ag43 : aggT Try.prog 43 = some false := by kernel_rfl
@[go_sem] theorem kd43 : kdT Try.prog 43 = some (.int .u64) := by kernel_rfl
@[go_sem] theorem ze43 : zeroT Try.prog 43 = some [.int .u64 0] := by kernel_rfl
@[go_sem] theorem sz46 : szT Try.prog 46 = some 1 := by kernel_rfl
@[go_sem] theorem ag46 : aggT Try.prog 46 = some false := by kernel_rfl
@[go_sem] theorem kd46 : kdT Try.prog 46 = some (.int .i64) := by kernel_rfl
@[go_sem] theorem ze46 : zeroT Try.prog 46 = some [.int .i64 0] := by kernel_rfl
@[go_sem] theorem sz54 : szT Try.prog 54 = some 1 := by kernel_rfl
@[go_sem] theorem ag54 : aggT Try.prog 54 = some false := by kernel_rfl
@[go_sem] theorem kd54 : kdT Try.prog 54 = some (.int .u32) := by kernel_rfl
@[go_sem] theorem ze54 : zeroT Try.prog 54 = some [.int .u32 0] := by kernel_rfl
@[go_sem] theorem sz56 : szT Try.prog 56 = some 1 := by kernel_rfl
@[go_sem] theorem ag56 : aggT Try.prog 56 = some false := by kernel_rfl
@[go_sem] theorem kd56 : kdT Try.prog 56 = some (.int .u64) := by kernel_rfl
@[go_sem] theorem ze56 : zeroT Try.prog 56 = some [.int .u64 0] := by kernel_rfl
@[go_sem] theorem sz60 : szT Try.prog 60 = some 1 := by kernel_rfl
@[go_sem] theorem ag60 : aggT Try.prog 60 = some false := by kernel_rfl
@[go_sem] theorem kd60 : kdT Try.prog 60 = some (.other) := by kernel_rfl
@[go_sem] theorem sz62 : szT Try.prog 62 = some 1 := by kernel_rfl
@[go_sem] theorem ag62 : aggT Try.prog 62 = some false := by kernel_rfl
@[go_sem] theorem kd62 : kdT Try.prog 62 = some (.other) := by kernel_rfl
@[go_sem] theorem sz66 : szT Try.prog 66 = some 4 := by kernel_rfl
@[go_sem] theorem ag66 : aggT Try.prog 66 = some true := by kernel_rfl
@[go_sem] theorem kd66 : kdT Try.prog 66 = some (.other) := by kernel_rfl
@[go_sem] theorem fl66_0 : fldT Try.prog 66 0 = some (0, 1, false) := by kernel_rfl
@[go_sem] theorem pr66_0 : prtT Try.prog 66 0 = some (0, 1, 17) := by kernel_rfl
@[go_sem] theorem fl66_1 : fldT Try.prog 66 1 = some (1, 1, false) := by kernel_rfl
@[go_sem] theorem pr66_1 : prtT Try.prog 66 1 = some (1, 1, 17) := by kernel_rfl
@[go_sem] theorem fl66_2 : fldT Try.prog 66 2 = some (2, 1, false) := by kernel_rfl
@[go_sem] theorem pr66_2 : prtT Try.prog 66 2 = some (2, 1, 17) := by kernel_rfl
@[go_sem] theorem fl66_3 : fldT Try.prog 66 3 = some (3, 1, false) := by kernel_rfl
@[go_sem] theorem pr66_3 : prtT Try.prog 66 3 = some (3, 1, 9) := by kernel_rfl
@[go_sem] theorem fo66 : fieldsOk Try.prog 66 = true := by kernel_rfl
@[go_sem] theorem sz67 : szT Try.prog 67 = some 4 := by kernel_rfl
@[go_sem] theorem ag67 : aggT Try.prog 67 = some true := by kernel_rfl
@[go_sem] theorem kd67 : kdT Try.prog 67 = some (.other) := by kernel_rfl
@[go_sem] theorem fl67_0 : fldT Try.prog 67 0 = some (0, 1, false) := by kernel_rfl
@[go_sem] theorem pr67_0 : prtT Try.prog 67 0 = some (0, 1, 17) := by kernel_rfl
@[go_sem] theorem fl67_1 : fldT Try.prog 67 1 = some (1, 1, false) := by kernel_rfl
@[go_sem] theorem pr67_1 : prtT Try.prog 67 1 = some (1, 1, 17) := by kernel_rfl
@[go_sem] theorem fl67_2 : fldT Try.prog 67 2 = some (2, 1, false) := by kernel_rfl
@[go_sem] theorem pr67_2 : prtT Try.prog 67 2 = some (2, 1, 17) := by kernel_rfl
@[go_sem] theorem fl67_3 : fldT Try.prog 67 3 = some (3, 1, false) := by kernel_rfl
@[go_sem] theorem pr67_3 : prtT Try.prog 67 3 = some (3, 1, 9) := by kernel_rfl
@[go_sem] theorem fo67 : fieldsOk Try.prog 67 = true := by kernel_rfl
@[go_sem] theorem sz68 : szT Try.prog 68 = some 0 := by kernel_rfl
@[go_sem] theorem ag68 : aggT Try.prog 68 = some true := by kernel_rfl
@[go_sem] theorem kd68 : kdT Try.prog 68 = some (.other) := by kernel_rfl
@[go_sem] theorem ar68 : arT Try.prog 68 = some (0, 1, false) := by kernel_rfl
@[go_sem] theorem fo68 : fieldsOk Try.prog 68 = true := by kernel_rfl
@[go_sem] theorem sz69 : szT Try.prog 69 = some 0 := by kernel_rfl
@[go_sem] theorem ag69 : aggT Try.prog 69 = some true := by kernel_rfl
@[go_sem] theorem kd69 : kdT Try.prog 69 = some (.other) := by kernel_rfl
@[go_sem] theorem pr69_0 : prtT Try.prog 69 0 = some (0, 0, 68) := by kernel_rfl
@[go_sem] theorem fo69 : fieldsOk Try.prog 69 = true := by kernel_rfl
@[go_sem] theorem sz70 : szT Try.prog 70 = some 0 := by kernel_rfl
@[go_sem] theorem ag70 : aggT Try.prog 70 = some true := by kernel_rfl
@[go_sem] theorem kd70 : kdT Try.prog 70 = some (.other) := by kernel_rfl
@[go_sem] theorem pr70_0 : prtT Try.prog 70 0 = some (0, 0, 68) := by kernel_rfl
@[go_sem] theorem fo70 : fieldsOk Try.prog 70 = true := by kernel_rfl
@[go_sem] theorem sz72 : szT Try.prog 72 = some 1 := by kernel_rfl
@[go_sem] theorem ag72 : aggT Try.prog 72 = some false := by kernel_rfl
@[go_sem] theorem kd72 : kdT Try.prog 72 = some (.int .u8) := by kernel_rfl
@[go_sem] theorem ze72 : zeroT Try.prog 72 = some [.int .u8 0] := by kernel_rfl
@[go_sem] theorem sz73 : szT Try.prog 73 = some 1 := by kernel_rfl
@[go_sem] theorem ag73 : aggT Try.prog 73 = some false := by kernel_rfl
@[go_sem] theorem kd73 : kdT Try.prog 73 = some (.int .u8) := by kernel_rfl
@[go_sem] theorem ze73 : zeroT Try.prog 73 = some [.int .u8 0] := by kernel_rfl
@[go_sem] theorem sz75 : szT Try.prog 75 = some 1 := by kernel_rfl
@[go_sem] theorem ag75 : aggT Try.prog 75 = some false := by kernel_rfl
@[go_sem] theorem kd75 : kdT Try.prog 75 = some (.other) := by kernel_rfl
@[go_sem] theorem sz76 : szT Try.prog 76 = some 1 := by kernel_rfl
@[go_sem] theorem ag76 : aggT Try.prog 76 = some false := by kernel_rfl
@[go_sem] theorem kd76 : kdT Try.prog 76 = some (.int .i32) := by kernel_rfl
@[go_sem] theorem ze76 : zeroT Try.prog 76 = some [.int .i32 0] := by kernel_rfl
@[go_sem] theorem sz77 : szT Try.prog 77 = some 1 := by kernel_rfl
@[go_sem] theorem ag77 : aggT Try.prog 77 = some false := by kernel_rfl
@[go_sem] theorem kd77 : kdT Try.prog 77 = some (.int .i32) := by kernel_rfl
@[go_sem] theorem ze77 : zeroT Try.prog 77 = some [.int .i32 0] := by kernel_rfl
@[go_sem] theorem sz78 : szT Try.prog 78 = some 11 := by kernel_rfl
@[go_sem] theorem ag78 : aggT Try.prog 78 = some true := by kernel_rfl
@[go_sem] theorem kd78 : kdT Try.prog 78 = some (.other) := by kernel_rfl
@[go_sem] theorem fl78_0 : fldT Try.prog 78 0 = some (0, 1, false) := by kernel_rfl
@[go_sem] theorem pr78_0 : prtT Try.prog 78 0 = some (0, 1, 12) := by kernel_rfl
@[go_sem] theorem fl78_1 : fldT Try.prog 78 1 = some (1, 1, false) := by kernel_rfl
@[go_sem] theorem pr78_1 : prtT Try.prog 78 1 = some (1, 1, 12) := by kernel_rfl
@[go_sem] theorem fl78_2 : fldT Try.prog 78 2 = some (2, 1, false) := by kernel_rfl
@[go_sem] theorem pr78_2 : prtT Try.prog 78 2 = some (2, 1, 54) := by kernel_rfl
@[go_sem] theorem fl78_3 : fldT Try.prog 78 3 = some (3, 1, false) := by kernel_rfl
@[go_sem] theorem pr78_3 : prtT Try.prog 78 3 = some (3, 1, 72) := by kernel_rfl
@[go_sem] theorem fl78_4 : fldT Try.prog 78 4 = some (4, 1, false) := by kernel_rfl
@[go_sem] theorem pr78_4 : prtT Try.prog 78 4 = some (4, 1, 5) := by kernel_rfl
@[go_sem] theorem fl78_5 : fldT Try.prog 78 5 = some (5, 1, false) := by kernel_rfl
@[go_sem] theorem pr78_5 : prtT Try.prog 78 5 = some (5, 1, 5) := by kernel_rfl
@[go_sem] theorem fl78_6 : fldT Try.prog 78 6 = some (6, 1, false) := by kernel_rfl
@[go_sem] theorem pr78_6 : prtT Try.prog 78 6 = some (6, 1, 73) := by kernel_rfl
@[go_sem] theorem fl78_8 : fldT Try.prog 78 8 = some (8, 1, false) := by kernel_rfl
@[go_sem] theorem pr78_8 : prtT Try.prog 78 8 = some (8, 1, 75) := by kernel_rfl
@[go_sem] theorem fl78_9 : fldT Try.prog 78 9 = some (9, 1, false) := by kernel_rfl
@[go_sem] theorem pr78_9 : prtT Try.prog 78 9 = some (9, 1, 76) := by kernel_rfl
@[go_sem] theorem fl78_10 : fldT Try.prog 78 10 = some (10, 1, false) := by kernel_rfl
@[go_sem] theorem pr78_10 : prtT Try.prog 78 10 = some (10, 1, 77) := by kernel_rfl
@[go_sem] theorem sz79 : szT Try.prog 79 = some 11 := by kernel_rfl
@[go_sem] theorem ag79 : aggT Try.prog 79 = some true := by kernel_rfl
@[go_sem] theorem kd79 : kdT Try.prog 79 = some (.other) := by kernel_rfl
@[go_sem] theorem fl79_0 : fldT Try.prog 79 0 = some (0, 1, false) := by kernel_rfl
@[go_sem] theorem pr79_0 : prtT Try.prog 79 0 = some (0, 1, 12) := by kernel_rfl
@[go_sem] theorem fl79_1 : fldT Try.prog 79 1 = some (1, 1, false) := by kernel_rfl
@[go_sem] theorem pr79_1 : prtT Try.prog 79 1 = some (1, 1, 12) := by kernel_rfl
@[go_sem] theorem fl79_2 : fldT Try.prog 79 2 = some (2, 1, false) := by kernel_rfl
@[go_sem] theorem pr79_2 : prtT Try.prog 79 2 = some (2, 1, 54) := by kernel_rfl
@[go_sem] theorem fl79_3 : fldT Try.prog 79 3 = some (3, 1, false) := by kernel_rfl
@[go_sem] theorem pr79_3 : prtT Try.prog 79 3 = some (3, 1, 72) := by kernel_rfl
@[go_sem] theorem fl79_4 : fldT Try.prog 79 4 = some (4, 1, false) := by kernel_rfl
@[go_sem] theorem pr79_4 : prtT Try.prog 79 4 = some (4, 1, 5) := by kernel_rfl
@[go_sem] theorem fl79_5 : fldT Try.prog 79 5 = some (5, 1, false) := by kernel_rfl
@[go_sem] theorem pr79_5 : prtT Try.prog 79 5 = some (5, 1, 5) := by kernel_rfl
@[go_sem] theorem fl79_6 : fldT Try.prog 79 6 = some (6, 1, false) := by kernel_rfl
@[go_sem] theorem pr79_6 : prtT Try.prog 79 6 = some (6, 1, 73) := by kernel_rfl
@[go_sem] theorem fl79_8 : fldT Try.prog 79 8 = some (8, 1, false) := by kernel_rfl
@[go_sem] theorem pr79_8 : prtT Try.prog 79 8 = some (8, 1, 75) := by kernel_rfl
@[go_sem] theorem fl79_9 : fldT Try.prog 79 9 = some (9, 1, false) := by kernel_rfl
@[go_sem] theorem pr79_9 : prtT Try.prog 79 9 = some (9, 1, 76) := by kernel_rfl
@[go_sem] theorem fl79_10 : fldT Try.prog 79 10 = some (10, 1, false) := by kernel_rfl
@[go_sem] theorem pr79_10 : prtT Try.prog 79 10 = some (10, 1, 77) := by kernel_rfl
@[go_sem] theorem sz80 : szT Try.prog 80 = some 1 := by kernel_rfl
@[go_sem] theorem ag80 : aggT Try.prog 80 = some false := by kernel_rfl
@[go_sem] theorem kd80 : kdT Try.prog 80 = some (.other) := by kernel_rfl
end Go.Proofs.Ytjpkddhpkohiaaa
