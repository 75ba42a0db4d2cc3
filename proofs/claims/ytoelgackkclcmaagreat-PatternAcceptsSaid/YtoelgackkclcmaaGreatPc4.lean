/- Lemmas. -/
import Derived.Test.YtoelgackkclcmaaGreatProg
import Derived.Test.YtoelgackkclcmaaGreatPc2
open Go.Proofs.Tryz renaming prog→zP
set_option linter.unusedSimpArgs false
set_option linter.unusedVariables false
set_option maxRecDepth 20000
set_option maxHeartbeats 64000000
namespace Go.Proofs.YtoelgackkclcmaaGreat
open Go Go.Sx
theorem mixed:zP.follows .mixedOrders=true:=by kernel_rfl
@[go_sem] theorem ag2:a1J zP 2=some false:=by kernel_rfl
@[go_sem] theorem ag5:a1J zP 5=some false:=by kernel_rfl
@[go_sem] theorem d01:a1J zP 22=some false:=by kernel_rfl
@[go_sem] theorem bs38:bsT zP 38=some (41,7):=by kernel_rfl
@[go_sem] theorem by38:byT zP 38=some 128:=by kernel_rfl
@[go_sem] theorem ni38:a2T zP 38=true:=by kernel_rfl
@[go_sem] theorem tb1:szT zP 1=some 1∧a1J zP 1=some false∧kdT zP 1=some (.other)∧a0Y zP 1=some [.fnil]∧szT zP 2=some 1∧kdT zP 2=some (.int .i64)∧a0Y zP 2=some [.int .i64 0]∧szT zP 3=some 1∧a1J zP 3=some false∧kdT zP 3=some (.int .i64):=by refine⟨?_,?_,?_,?_,?_,?_,?_,?_,?_,?_⟩<;>kernel_rfl
@[go_sem] theorem tb2:a0Y zP 3=some [.int .i64 0]∧szT zP 4=some 1∧a1J zP 4=some false∧kdT zP 4=some (.bool)∧a0Y zP 4=some [.bool false]∧szT zP 5=some 1∧kdT zP 5=some (.int .u8)∧a0Y zP 5=some [.int .u8 0]∧szT zP 6=some 1∧a1J zP 6=some false:=by refine⟨?_,?_,?_,?_,?_,?_,?_,?_,?_,?_⟩<;>kernel_rfl
@[go_sem] theorem tb3:kdT zP 6=some (.int .u8)∧a0Y zP 6=some [.int .u8 0]∧szT zP 9=some 1∧a1J zP 9=some false∧kdT zP 9=some (.str)∧a2T zP 9=true∧a0Y zP 9=some [.str []]∧d0U zP 20=true∧szT zP 22=some 1∧kdT zP 22=some (.other):=by refine⟨?_,?_,?_,?_,?_,?_,?_,?_,?_,?_⟩<;>kernel_rfl
@[go_sem] theorem tb4:elT zP 22=some (1,false)∧bsT zP 22=some (3,1)∧byT zP 22=some 8∧a2T zP 22=true∧a0Y zP 22=some [.nil 1]∧szT zP 25=some 1∧a1J zP 25=some false∧kdT zP 25=some (.other)∧elT zP 25=some (5,true)∧bsT zP 25=some (28,5):=by refine⟨?_,?_,?_,?_,?_,?_,?_,?_,?_,?_⟩<;>kernel_rfl
@[go_sem] theorem tb5:byT zP 25=some 80∧a2T zP 25=true∧a0Y zP 25=some [.nil 5]∧szT zP 26=some 1∧a1J zP 26=some false∧kdT zP 26=some (.other)∧elT zP 26=some (2,true)∧bsT zP 26=some (56,2)∧byT zP 26=some 24∧a2T zP 26=true:=by refine⟨?_,?_,?_,?_,?_,?_,?_,?_,?_,?_⟩<;>kernel_rfl
@[go_sem] theorem tb6:a0Y zP 26=some [.nil 2]∧szT zP 27=some 5∧a1J zP 27=some true∧kdT zP 27=some (.other)∧a1U zP 27 0=some (0,1,false)∧a1P zP 27 0=some (0,1,3)∧a1U zP 27 1=some (1,1,false)∧a1P zP 27 1=some (1,1,2)∧a1U zP 27 2=some (2,1,false)∧a1P zP 27 2=some (2,1,9):=by refine⟨?_,?_,?_,?_,?_,?_,?_,?_,?_,?_⟩<;>kernel_rfl
@[go_sem] theorem tb7:a1U zP 27 3=some (3,1,false)∧a1P zP 27 3=some (3,1,25)∧a1U zP 27 4=some (4,1,false)∧a1P zP 27 4=some (4,1,26)∧a0T zP 27=true∧a0Y zP 27=some [.int .i64 0, .int .i64 0, .str [], .nil 5, .nil 2]∧szT zP 28=some 5∧a1J zP 28=some true∧kdT zP 28=some (.other)∧a1U zP 28 0=some (0,1,false):=by refine⟨?_,?_,?_,?_,?_,?_,?_,?_,?_,?_⟩<;>kernel_rfl
@[go_sem] theorem tb8:a1P zP 28 0=some (0,1,3)∧a1U zP 28 1=some (1,1,false)∧a1P zP 28 1=some (1,1,2)∧a1U zP 28 2=some (2,1,false)∧a1P zP 28 2=some (2,1,9)∧a1U zP 28 3=some (3,1,false)∧a1P zP 28 3=some (3,1,25)∧a1U zP 28 4=some (4,1,false)∧a1P zP 28 4=some (4,1,26)∧a0T zP 28=true:=by refine⟨?_,?_,?_,?_,?_,?_,?_,?_,?_,?_⟩<;>kernel_rfl
@[go_sem] theorem tb9:a0Y zP 28=some [.int .i64 0, .int .i64 0, .str [], .nil 5, .nil 2]∧szT zP 30=some 1∧a1J zP 30=some false∧kdT zP 30=some (.other)∧szT zP 31=some 2∧a1J zP 31=some true∧kdT zP 31=some (.other)∧a1U zP 31 0=some (0,1,false)∧a1P zP 31 0=some (0,1,22)∧a1U zP 31 1=some (1,1,false):=by refine⟨?_,?_,?_,?_,?_,?_,?_,?_,?_,?_⟩<;>kernel_rfl
@[go_sem] theorem tb10:a1P zP 31 1=some (1,1,3)∧a0T zP 31=true∧a0Y zP 31=some [.nil 1, .int .i64 0]∧szT zP 32=some 2∧a1J zP 32=some true∧kdT zP 32=some (.other)∧a1U zP 32 0=some (0,1,false)∧a1P zP 32 0=some (0,1,22)∧a1U zP 32 1=some (1,1,false)∧a1P zP 32 1=some (1,1,3):=by refine⟨?_,?_,?_,?_,?_,?_,?_,?_,?_,?_⟩<;>kernel_rfl
@[go_sem] theorem tb11:a0T zP 32=true∧a0Y zP 32=some [.nil 1, .int .i64 0]∧szT zP 33=some 1∧a1J zP 33=some false∧kdT zP 33=some (.other)∧elT zP 33=some (1,false)∧bsT zP 33=some (9,1)∧byT zP 33=some 16∧a2T zP 33=true∧a0Y zP 33=some [.nil 1]:=by refine⟨?_,?_,?_,?_,?_,?_,?_,?_,?_,?_⟩<;>kernel_rfl
@[go_sem] theorem tb12:szT zP 35=some 1∧a1J zP 35=some false∧kdT zP 35=some (.other)∧elT zP 35=some (8,true)∧bsT zP 35=some (96,8)∧byT zP 35=some 104∧a2T zP 35=true∧a0Y zP 35=some [.nil 8]∧szT zP 36=some 2∧a1J zP 36=some true:=by refine⟨?_,?_,?_,?_,?_,?_,?_,?_,?_,?_⟩<;>kernel_rfl
@[go_sem] theorem tb13:kdT zP 36=some (.other)∧a1U zP 36 0=some (0,1,false)∧a1P zP 36 0=some (0,1,35)∧a1U zP 36 1=some (1,1,false)∧a1P zP 36 1=some (1,1,3)∧a0T zP 36=true∧a0Y zP 36=some [.nil 8, .int .i64 0]∧szT zP 37=some 2∧a1J zP 37=some true∧kdT zP 37=some (.other):=by refine⟨?_,?_,?_,?_,?_,?_,?_,?_,?_,?_⟩<;>kernel_rfl
@[go_sem] theorem tb14:a1U zP 37 0=some (0,1,false)∧a1P zP 37 0=some (0,1,35)∧a1U zP 37 1=some (1,1,false)∧a1P zP 37 1=some (1,1,3)∧a0T zP 37=true∧a0Y zP 37=some [.nil 8, .int .i64 0]∧szT zP 38=some 1∧a1J zP 38=some false∧kdT zP 38=some (.other)∧elT zP 38=some (7,true):=by refine⟨?_,?_,?_,?_,?_,?_,?_,?_,?_,?_⟩<;>kernel_rfl
@[go_sem] theorem tb15:a0Y zP 38=some [.nil 7]∧szT zP 39=some 1∧a1J zP 39=some false∧kdT zP 39=some (.other)∧elT zP 39=some (9,true)∧bsT zP 39=some (126,9)∧byT zP 39=some 160∧a2T zP 39=true∧a0Y zP 39=some [.nil 9]∧szT zP 40=some 7:=by refine⟨?_,?_,?_,?_,?_,?_,?_,?_,?_,?_⟩<;>kernel_rfl
@[go_sem] theorem tb16:a1J zP 40=some true∧kdT zP 40=some (.other)∧a1U zP 40 0=some (0,1,false)∧a1P zP 40 0=some (0,1,3)∧a1U zP 40 1=some (1,1,false)∧a1P zP 40 1=some (1,1,2)∧a1U zP 40 2=some (2,1,false)∧a1P zP 40 2=some (2,1,9)∧a1U zP 40 3=some (3,1,false)∧a1P zP 40 3=some (3,1,38):=by refine⟨?_,?_,?_,?_,?_,?_,?_,?_,?_,?_⟩<;>kernel_rfl
@[go_sem] theorem tb17:a1U zP 40 4=some (4,1,false)∧a1P zP 40 4=some (4,1,26)∧a1U zP 40 5=some (5,1,false)∧a1P zP 40 5=some (5,1,39)∧a1U zP 40 6=some (6,1,false)∧a1P zP 40 6=some (6,1,33)∧a0T zP 40=true∧a0Y zP 40=some [.int .i64 0, .int .i64 0, .str [], .nil 7, .nil 2, .nil 9, .nil 1]∧szT zP 41=some 7∧a1J zP 41=some true:=by refine⟨?_,?_,?_,?_,?_,?_,?_,?_,?_,?_⟩<;>kernel_rfl
@[go_sem] theorem tb18:kdT zP 41=some (.other)∧a1U zP 41 0=some (0,1,false)∧a1P zP 41 0=some (0,1,3)∧a1U zP 41 1=some (1,1,false)∧a1P zP 41 1=some (1,1,2)∧a1U zP 41 2=some (2,1,false)∧a1P zP 41 2=some (2,1,9)∧a1U zP 41 3=some (3,1,false)∧a1P zP 41 3=some (3,1,38)∧a1U zP 41 4=some (4,1,false):=by refine⟨?_,?_,?_,?_,?_,?_,?_,?_,?_,?_⟩<;>kernel_rfl
@[go_sem] theorem tb19:a1P zP 41 4=some (4,1,26)∧a1U zP 41 5=some (5,1,false)∧a1P zP 41 5=some (5,1,39)∧a1U zP 41 6=some (6,1,false)∧a1P zP 41 6=some (6,1,33)∧a0T zP 41=true∧a0Y zP 41=some [.int .i64 0, .int .i64 0, .str [], .nil 7, .nil 2, .nil 9, .nil 1]∧szT zP 45=some 3∧a1J zP 45=some true∧kdT zP 45=some (.other):=by refine⟨?_,?_,?_,?_,?_,?_,?_,?_,?_,?_⟩<;>kernel_rfl
@[go_sem] theorem tb20:a1U zP 45 0=some (0,1,false)∧a1P zP 45 0=some (0,1,9)∧a1U zP 45 1=some (1,2,true)∧a1P zP 45 1=some (1,2,37)∧a0T zP 45=true∧a0Y zP 45=some [.str [], .nil 8, .int .i64 0]∧szT zP 46=some 3∧a1J zP 46=some true∧kdT zP 46=some (.other)∧a1U zP 46 0=some (0,1,false):=by refine⟨?_,?_,?_,?_,?_,?_,?_,?_,?_,?_⟩<;>kernel_rfl
@[go_sem] theorem tb21:a1P zP 46 0=some (0,1,9)∧a1U zP 46 1=some (1,2,true)∧a1P zP 46 1=some (1,2,37)∧a0T zP 46=true∧a0Y zP 46=some [.str [], .nil 8, .int .i64 0]∧szT zP 48=some 1∧a1J zP 48=some false∧kdT zP 48=some (.other)∧elT zP 48=some (3,true)∧bsT zP 48=some (46,3):=by refine⟨?_,?_,?_,?_,?_,?_,?_,?_,?_,?_⟩<;>kernel_rfl
@[go_sem] theorem tb22:byT zP 48=some 48∧a2T zP 48=true∧a0Y zP 48=some [.nil 3]∧szT zP 55=some 2∧a1J zP 55=some true∧kdT zP 55=some (.other)∧a1U zP 55 0=some (0,1,false)∧a1P zP 55 0=some (0,1,3)∧a1U zP 55 1=some (1,1,false)∧a1P zP 55 1=some (1,1,9):=by refine⟨?_,?_,?_,?_,?_,?_,?_,?_,?_,?_⟩<;>kernel_rfl
@[go_sem] theorem fo55:a0T zP 55=true:=by kernel_rfl
@[go_sem] theorem eqs55 (a0 b0:Int) (a1 b1:List UInt8):a6N zP 6 55 [.int .i64 a0, .str a1] [.int .i64 b0, .str b1]=some ((decide (a0=b0))&&((decide (a1=b1))&&true)):=by kernel_rfl
@[go_sem] theorem tb23:Go.Program.eqGuardType zP (Go.Program.depth zP) 55=false∧a0Y zP 55=some [.int .i64 0, .str []]∧szT zP 56=some 2∧a1J zP 56=some true∧kdT zP 56=some (.other)∧a1U zP 56 0=some (0,1,false)∧a1P zP 56 0=some (0,1,3)∧a1U zP 56 1=some (1,1,false)∧a1P zP 56 1=some (1,1,9)∧a0T zP 56=true:=by refine⟨?_,?_,?_,?_,?_,?_,?_,?_,?_,?_⟩<;>kernel_rfl
@[go_sem] theorem eqs56 (a0 b0:Int) (a1 b1:List UInt8):a6N zP 6 56 [.int .i64 a0, .str a1] [.int .i64 b0, .str b1]=some ((decide (a0=b0))&&((decide (a1=b1))&&true)):=by kernel_rfl
@[go_sem] theorem tb24:Go.Program.eqGuardType zP (Go.Program.depth zP) 56=false∧a0Y zP 56=some [.int .i64 0, .str []]∧szT zP 74=some 1∧a1J zP 74=some false∧kdT zP 74=some (.other)∧elT zP 74=some (1,false)∧bsT zP 74=some (22,1)∧byT zP 74=some 24∧a2T zP 74=true∧a0Y zP 74=some [.nil 1]:=by refine⟨?_,?_,?_,?_,?_,?_,?_,?_,?_,?_⟩<;>kernel_rfl
@[go_sem] theorem tb25:szT zP 75=some 1∧a1J zP 75=some false∧kdT zP 75=some (.other)∧elT zP 75=some (2,true)∧bsT zP 75=some (37,2)∧byT zP 75=some 32∧a2T zP 75=true∧a0Y zP 75=some [.nil 2]∧szT zP 80=some 1∧a1J zP 80=some false:=by refine⟨?_,?_,?_,?_,?_,?_,?_,?_,?_,?_⟩<;>kernel_rfl
@[go_sem] theorem tb26:kdT zP 80=some (.int .i64)∧a0Y zP 80=some [.int .i64 0]∧szT zP 93=some 1∧a1J zP 93=some false∧kdT zP 93=some (.other)∧elT zP 93=some (4,true)∧bsT zP 93=some (159,4)∧byT zP 93=some 40∧a2T zP 93=true∧a0Y zP 93=some [.nil 4]:=by refine⟨?_,?_,?_,?_,?_,?_,?_,?_,?_,?_⟩<;>kernel_rfl
@[go_sem] theorem tb27:szT zP 94=some 2∧a1J zP 94=some true∧kdT zP 94=some (.other)∧arT zP 94=some (2,1,false)∧a1P zP 94 0=some (0,1,3)∧a1P zP 94 1=some (1,1,3)∧a0T zP 94=true∧a0Y zP 94=some [.int .i64 0, .int .i64 0]∧szT zP 95=some 8∧a1J zP 95=some true:=by refine⟨?_,?_,?_,?_,?_,?_,?_,?_,?_,?_⟩<;>kernel_rfl
@[go_sem] theorem tb28:kdT zP 95=some (.other)∧a1U zP 95 0=some (0,1,false)∧a1P zP 95 0=some (0,1,3)∧a1U zP 95 1=some (1,1,false)∧a1P zP 95 1=some (1,1,2)∧a1U zP 95 2=some (2,1,false)∧a1P zP 95 2=some (2,1,2)∧a1U zP 95 3=some (3,1,false)∧a1P zP 95 3=some (3,1,9)∧a1U zP 95 4=some (4,1,false):=by refine⟨?_,?_,?_,?_,?_,?_,?_,?_,?_,?_⟩<;>kernel_rfl
@[go_sem] theorem tb29:a1P zP 95 4=some (4,1,22)∧a1U zP 95 5=some (5,1,false)∧a1P zP 95 5=some (5,1,93)∧a1U zP 95 6=some (6,2,true)∧a1P zP 95 6=some (6,2,94)∧a0T zP 95=true∧a0Y zP 95=some [.int .i64 0, .int .i64 0, .int .i64 0, .str [], .nil 1, .nil 4, .int .i64 0, .int .i64 0]∧szT zP 96=some 8∧a1J zP 96=some true∧kdT zP 96=some (.other):=by refine⟨?_,?_,?_,?_,?_,?_,?_,?_,?_,?_⟩<;>kernel_rfl
@[go_sem] theorem tb30:a1U zP 96 0=some (0,1,false)∧a1P zP 96 0=some (0,1,3)∧a1U zP 96 1=some (1,1,false)∧a1P zP 96 1=some (1,1,2)∧a1U zP 96 2=some (2,1,false)∧a1P zP 96 2=some (2,1,2)∧a1U zP 96 3=some (3,1,false)∧a1P zP 96 3=some (3,1,9)∧a1U zP 96 4=some (4,1,false)∧a1P zP 96 4=some (4,1,22):=by refine⟨?_,?_,?_,?_,?_,?_,?_,?_,?_,?_⟩<;>kernel_rfl
@[go_sem] theorem tb31:a1U zP 96 5=some (5,1,false)∧a1P zP 96 5=some (5,1,93)∧a1U zP 96 6=some (6,2,true)∧a1P zP 96 6=some (6,2,94)∧a0T zP 96=true∧a0Y zP 96=some [.int .i64 0, .int .i64 0, .int .i64 0, .str [], .nil 1, .nil 4, .int .i64 0, .int .i64 0]∧szT zP 114=some 1∧a1J zP 114=some false∧kdT zP 114=some (.other)∧szT zP 119=some 1:=by refine⟨?_,?_,?_,?_,?_,?_,?_,?_,?_,?_⟩<;>kernel_rfl
@[go_sem] theorem tb32:a1J zP 119=some false∧kdT zP 119=some (.other)∧a0Y zP 119=some [.fnil]∧szT zP 121=some 1∧a1J zP 121=some false∧kdT zP 121=some (.other)∧elT zP 121=some (1,false)∧bsT zP 121=some (2,1)∧byT zP 121=some 8∧a2T zP 121=true:=by refine⟨?_,?_,?_,?_,?_,?_,?_,?_,?_,?_⟩<;>kernel_rfl
@[go_sem] theorem tb33:a0Y zP 121=some [.nil 1]∧szT zP 124=some 1∧a1J zP 124=some false∧kdT zP 124=some (.other)∧a0Y zP 124=some [.fnil]∧szT zP 125=some 9∧a1J zP 125=some true∧kdT zP 125=some (.other)∧a1U zP 125 0=some (0,1,false)∧a1P zP 125 0=some (0,1,38):=by refine⟨?_,?_,?_,?_,?_,?_,?_,?_,?_,?_⟩<;>kernel_rfl
@[go_sem] theorem tb34:a1U zP 125 1=some (1,1,false)∧a1P zP 125 1=some (1,1,4)∧a1U zP 125 2=some (2,7,true)∧a1P zP 125 2=some (2,7,41)∧a0T zP 125=true∧a0Y zP 125=some [.nil 7, .bool false, .int .i64 0, .int .i64 0, .str [], .nil 7, .nil 2, .nil 9, .nil 1]∧szT zP 126=some 9∧a1J zP 126=some true∧kdT zP 126=some (.other)∧a1U zP 126 0=some (0,1,false):=by refine⟨?_,?_,?_,?_,?_,?_,?_,?_,?_,?_⟩<;>kernel_rfl
@[go_sem] theorem tb35:a1P zP 126 0=some (0,1,38)∧a1U zP 126 1=some (1,1,false)∧a1P zP 126 1=some (1,1,4)∧a1U zP 126 2=some (2,7,true)∧a1P zP 126 2=some (2,7,41)∧a0T zP 126=true∧a0Y zP 126=some [.nil 7, .bool false, .int .i64 0, .int .i64 0, .str [], .nil 7, .nil 2, .nil 9, .nil 1]∧szT zP 129=some 2∧a1J zP 129=some true∧kdT zP 129=some (.other):=by refine⟨?_,?_,?_,?_,?_,?_,?_,?_,?_,?_⟩<;>kernel_rfl
@[go_sem] theorem tb36:a1U zP 129 0=some (0,1,false)∧a1P zP 129 0=some (0,1,2)∧a1U zP 129 1=some (1,1,false)∧a1P zP 129 1=some (1,1,2)∧a0T zP 129=true:=by refine⟨?_,?_,?_,?_,?_⟩<;>kernel_rfl
@[go_sem] theorem d1q (a0 b0:Int) (a1 b1:Int):a6N zP 6 129 [.int .i64 a0, .int .i64 a1] [.int .i64 b0, .int .i64 b1]=some ((decide (a0=b0))&&((decide (a1=b1))&&true)):=by kernel_rfl
@[go_sem] theorem tb37:Go.Program.eqGuardType zP (Go.Program.depth zP) 129=false∧a0Y zP 129=some [.int .i64 0, .int .i64 0]∧szT zP 130=some 2∧a1J zP 130=some true∧kdT zP 130=some (.other)∧a1U zP 130 0=some (0,1,false)∧a1P zP 130 0=some (0,1,2)∧a1U zP 130 1=some (1,1,false)∧a1P zP 130 1=some (1,1,2)∧a0T zP 130=true:=by refine⟨?_,?_,?_,?_,?_,?_,?_,?_,?_,?_⟩<;>kernel_rfl
@[go_sem] theorem d1r (a0 b0:Int) (a1 b1:Int):a6N zP 6 130 [.int .i64 a0, .int .i64 a1] [.int .i64 b0, .int .i64 b1]=some ((decide (a0=b0))&&((decide (a1=b1))&&true)):=by kernel_rfl
@[go_sem] theorem tb38:Go.Program.eqGuardType zP (Go.Program.depth zP) 130=false∧a0Y zP 130=some [.int .i64 0, .int .i64 0]∧szT zP 131=some 1∧a1J zP 131=some false∧kdT zP 131=some (.other)∧elT zP 131=some (2,true)∧bsT zP 131=some (130,2)∧byT zP 131=some 16∧a2T zP 131=true∧a0Y zP 131=some [.nil 2]:=by refine⟨?_,?_,?_,?_,?_,?_,?_,?_,?_,?_⟩<;>kernel_rfl
@[go_sem] theorem tb39:szT zP 133=some 2∧a1J zP 133=some true∧kdT zP 133=some (.other)∧a1U zP 133 0=some (0,1,false)∧a1P zP 133 0=some (0,1,4)∧a1U zP 133 1=some (1,1,false)∧a1P zP 133 1=some (1,1,33)∧a0T zP 133=true∧a0Y zP 133=some [.bool false, .nil 1]∧szT zP 134=some 2:=by refine⟨?_,?_,?_,?_,?_,?_,?_,?_,?_,?_⟩<;>kernel_rfl
@[go_sem] theorem tb40:a1J zP 134=some true∧kdT zP 134=some (.other)∧a1U zP 134 0=some (0,1,false)∧a1P zP 134 0=some (0,1,4)∧a1U zP 134 1=some (1,1,false)∧a1P zP 134 1=some (1,1,33)∧a0T zP 134=true∧a0Y zP 134=some [.bool false, .nil 1]∧szT zP 142=some 1∧a1J zP 142=some false:=by refine⟨?_,?_,?_,?_,?_,?_,?_,?_,?_,?_⟩<;>kernel_rfl
@[go_sem] theorem tb41:kdT zP 142=some (.other)∧a0Y zP 142=some [.fnil]∧szT zP 155=some 1∧a1J zP 155=some false∧kdT zP 155=some (.other)∧elT zP 155=some (1,false)∧bsT zP 155=some (4,1)∧byT zP 155=some 1∧a2T zP 155=true∧a0Y zP 155=some [.nil 1]:=by refine⟨?_,?_,?_,?_,?_,?_,?_,?_,?_,?_⟩<;>kernel_rfl
@[go_sem] theorem tb42:szT zP 158=some 4∧a1J zP 158=some true∧kdT zP 158=some (.other)∧a1U zP 158 0=some (0,2,true)∧a1P zP 158 0=some (0,2,56)∧a1U zP 158 1=some (2,1,false)∧a1P zP 158 1=some (2,1,3)∧a1U zP 158 2=some (3,1,false)∧a1P zP 158 2=some (3,1,4)∧a0T zP 158=true:=by refine⟨?_,?_,?_,?_,?_,?_,?_,?_,?_,?_⟩<;>kernel_rfl
@[go_sem] theorem d1s (a0 b0:Int) (a1 b1:List UInt8) (a2 b2:Int) (a3 b3:Bool):a6N zP 6 158 [.int .i64 a0, .str a1, .int .i64 a2, .bool a3] [.int .i64 b0, .str b1, .int .i64 b2, .bool b3]=some (((decide (a0=b0))&&((decide (a1=b1))&&true))&&((decide (a2=b2))&&((a3==b3)&&true))):=by kernel_rfl
@[go_sem] theorem tb43:Go.Program.eqGuardType zP (Go.Program.depth zP) 158=false∧a0Y zP 158=some [.int .i64 0, .str [], .int .i64 0, .bool false]∧szT zP 159=some 4∧a1J zP 159=some true∧kdT zP 159=some (.other)∧a1U zP 159 0=some (0,2,true)∧a1P zP 159 0=some (0,2,56)∧a1U zP 159 1=some (2,1,false)∧a1P zP 159 1=some (2,1,3)∧a1U zP 159 2=some (3,1,false):=by refine⟨?_,?_,?_,?_,?_,?_,?_,?_,?_,?_⟩<;>kernel_rfl
@[go_sem] theorem tb44:a1P zP 159 2=some (3,1,4)∧a0T zP 159=true:=by refine⟨?_,?_⟩<;>kernel_rfl
@[go_sem] theorem d1t (a0 b0:Int) (a1 b1:List UInt8) (a2 b2:Int) (a3 b3:Bool):a6N zP 6 159 [.int .i64 a0, .str a1, .int .i64 a2, .bool a3] [.int .i64 b0, .str b1, .int .i64 b2, .bool b3]=some (((decide (a0=b0))&&((decide (a1=b1))&&true))&&((decide (a2=b2))&&((a3==b3)&&true))):=by kernel_rfl
@[go_sem] theorem tb45:Go.Program.eqGuardType zP (Go.Program.depth zP) 159=false∧a0Y zP 159=some [.int .i64 0, .str [], .int .i64 0, .bool false]∧szT zP 165=some 1∧a1J zP 165=some false∧kdT zP 165=some (.int .u64)∧a0Y zP 165=some [.int .u64 0]∧szT zP 172=some 1∧a1J zP 172=some false∧kdT zP 172=some (.other)∧a0Y zP 172=some [.fnil]:=by refine⟨?_,?_,?_,?_,?_,?_,?_,?_,?_,?_⟩<;>kernel_rfl
@[go_sem] theorem tb46:szT zP 174=some 1∧a1J zP 174=some false∧kdT zP 174=some (.other)∧a0Y zP 174=some [.fnil]∧szT zP 201=some 1∧a1J zP 201=some false∧kdT zP 201=some (.int .i64)∧a0Y zP 201=some [.int .i64 0]∧szT zP 210=some 1∧a1J zP 210=some false:=by refine⟨?_,?_,?_,?_,?_,?_,?_,?_,?_,?_⟩<;>kernel_rfl
@[go_sem] theorem tb47:kdT zP 210=some (.int .u32)∧a0Y zP 210=some [.int .u32 0]∧szT zP 212=some 1∧a1J zP 212=some false∧kdT zP 212=some (.int .u64)∧a0Y zP 212=some [.int .u64 0]∧szT zP 213=some 1∧a1J zP 213=some false∧kdT zP 213=some (.other)∧a0Y zP 213=some [.fnil]:=by refine⟨?_,?_,?_,?_,?_,?_,?_,?_,?_,?_⟩<;>kernel_rfl
@[go_sem] theorem tb48:szT zP 214=some 1∧a1J zP 214=some false∧kdT zP 214=some (.other)∧a0Y zP 214=some [.fnil]∧szT zP 217=some 1∧a1J zP 217=some false∧kdT zP 217=some (.other)∧a0Y zP 217=some [.fnil]∧szT zP 221=some 1∧a1J zP 221=some false:=by refine⟨?_,?_,?_,?_,?_,?_,?_,?_,?_,?_⟩<;>kernel_rfl
@[go_sem] theorem tb49:kdT zP 221=some (.other)∧a0Y zP 221=some [.fnil]∧szT zP 228=some 5∧a1J zP 228=some true∧kdT zP 228=some (.other)∧a1U zP 228 0=some (0,1,false)∧a1P zP 228 0=some (0,1,4)∧a1U zP 228 1=some (1,1,false)∧a1P zP 228 1=some (1,1,4)∧a1U zP 228 2=some (2,1,false):=by refine⟨?_,?_,?_,?_,?_,?_,?_,?_,?_,?_⟩<;>kernel_rfl
@[go_sem] theorem tb50:a1P zP 228 2=some (2,1,4)∧a1U zP 228 3=some (3,1,false)∧a1P zP 228 3=some (3,1,4)∧a1U zP 228 4=some (4,1,false)∧a1P zP 228 4=some (4,1,4)∧a0T zP 228=true:=by refine⟨?_,?_,?_,?_,?_,?_⟩<;>kernel_rfl
@[go_sem] theorem d1u (a0 b0:Bool) (a1 b1:Bool) (a2 b2:Bool) (a3 b3:Bool) (a4 b4:Bool):a6N zP 6 228 [.bool a0, .bool a1, .bool a2, .bool a3, .bool a4] [.bool b0, .bool b1, .bool b2, .bool b3, .bool b4]=some ((a0==b0)&&((a1==b1)&&((a2==b2)&&((a3==b3)&&((a4==b4)&&true))))):=by kernel_rfl
@[go_sem] theorem tb51:Go.Program.eqGuardType zP (Go.Program.depth zP) 228=false∧a0Y zP 228=some [.bool false, .bool false, .bool false, .bool false, .bool false]∧szT zP 229=some 5∧a1J zP 229=some true∧kdT zP 229=some (.other)∧a1U zP 229 0=some (0,1,false)∧a1P zP 229 0=some (0,1,4)∧a1U zP 229 1=some (1,1,false)∧a1P zP 229 1=some (1,1,4)∧a1U zP 229 2=some (2,1,false):=by refine⟨?_,?_,?_,?_,?_,?_,?_,?_,?_,?_⟩<;>kernel_rfl
@[go_sem] theorem tb52:a1P zP 229 2=some (2,1,4)∧a1U zP 229 3=some (3,1,false)∧a1P zP 229 3=some (3,1,4)∧a1U zP 229 4=some (4,1,false)∧a1P zP 229 4=some (4,1,4)∧a0T zP 229=true∧a0Y zP 229=some [.bool false, .bool false, .bool false, .bool false, .bool false]∧szT zP 234=some 1∧a1J zP 234=some false∧kdT zP 234=some (.int .u64):=by refine⟨?_,?_,?_,?_,?_,?_,?_,?_,?_,?_⟩<;>kernel_rfl
@[go_sem] theorem tb53:a0Y zP 234=some [.int .u64 0]∧szT zP 238=some 1∧a1J zP 238=some false∧kdT zP 238=some (.other)∧szT zP 243=some 2∧a1J zP 243=some true∧kdT zP 243=some (.other)∧a1U zP 243 0=some (0,2,true)∧a1P zP 243 0=some (0,2,134)∧a0T zP 243=true:=by refine⟨?_,?_,?_,?_,?_,?_,?_,?_,?_,?_⟩<;>kernel_rfl
@[go_sem] theorem tb54:a0Y zP 243=some [.bool false, .nil 1]∧szT zP 244=some 2∧a1J zP 244=some true∧kdT zP 244=some (.other)∧a1U zP 244 0=some (0,2,true)∧a1P zP 244 0=some (0,2,134)∧a0T zP 244=true∧a0Y zP 244=some [.bool false, .nil 1]∧szT zP 255=some 1∧a1J zP 255=some false:=by refine⟨?_,?_,?_,?_,?_,?_,?_,?_,?_,?_⟩<;>kernel_rfl
@[go_sem] theorem kd255:kdT zP 255=some (.other):=by kernel_rfl
end Go.Proofs.YtoelgackkclcmaaGreat
namespace Go.Sx
variable {P:Program} {n:Nat} {Q:Exit→AS→Prop}
def cellsOf (P:Program) (env:Env):List Operand→Option (List Cell)
 |[]=>some []
 |x::xs=>match ev P env 0 x with
  |some (.one c)=>match cellsOf P env xs with
   |some cs=>some (c::cs)
   |none=>none
  |_=>none
theorem b1f {M:Mem} {ν:Nu} {a:Act} {env:Env} {o:Oper} (he:a3Z M ν a env o):∀ (xs:List Operand) (cs:List Cell),(∀ x∈xs,x∈o.op.operands)→cellsOf P env xs=some cs→Cell.reps M ν cs (xs.map a.eval)
 |[],cs,_,h=>by simp only[cellsOf,Option.some.injEq] at h;subst h;simp only[za6,Cell.reps]
 |x::xs,cs,hx,h=>by
  unfold cellsOf at h
  split at h
  ·rename_i c ex
   split at h
   ·rename_i q u
    simp only[Option.some.injEq] at h
    subst h
    have hr:=a0z he (hx x (by simp)) ex
    simp only[T.rep] at hr
    simp only[zau,Cell.reps]
    exact⟨_,_,rfl,hr,b1f he xs q (fun y hy=>hx y (by simp[hy])) u⟩
   ·cases h
  ·cases h
theorem OpP.clo {o:Oper} {env:Env} {B:Bx} {f:FuncId} {captured:List Operand} {cs:List Cell} (ho:o.op= .makeFunc (.func f) #[] captured.toArray) (h:cellsOf P env captured=some cs):OpP P o env B (.one (.clo f cs)):=by
 refine OpP.of_val fun κ M ν ac w B' hB he hs=>?_
 refine⟨.func (.func f) #[] (captured.map ac.eval).toArray,?_,?_⟩
 ·unfold execOp;rw[ho];simp[Instr.makeFunc]
 ·simp only[T.rep,Cell.rep]
  exact⟨_,rfl,b1f he captured cs (fun x hx=>by rw[ho];simp[Op.operands,hx]) h⟩
theorem AWP.cloR {id:Nat} {o1 o2:Oper} {env:Env} {B:Bx} {f:FuncId} {captured:List Operand} {cs:List Cell} (hd:a1n n [o1,o2]=true) (g1:o1.guard=none) (g2:o2.guard=none)
  (ho:o1.op= .makeFunc (.func f) #[] captured.toArray) (hc:cellsOf P env captured=some cs)
  (h:a6q P o2 (a15 env o1.dst (.one (.clo f cs))) B (fun t3 B3=>Q .normal ⟨a15 (a15 env o1.dst (.one (.clo f cs))) o2.dst t3,B3⟩)):
  AWP P n (.region id [o1,o2].toArray false) ⟨env,B⟩ Q:=by
 simp only[a1n,List.all_cons,List.all_nil,zaw,zag] at hd
 obtain⟨⟨a1,a2⟩,c1,c2⟩:=hd
 refine AWP.region_seq fun K hK=>?_
 have u:∀ q B2,a6q P o2 q B2 (fun t3 B3=>Q .normal ⟨a15 q o2.dst t3,B3⟩)→a1T P n [o1,o2] [o2] ⟨q,B2⟩ K:=by
  intro q B2 h
  unfold a1T a08
  rw[g2]
  rcases a37 h with (⟨t,h1,h2⟩|⟨t,B',h1,h2⟩|⟨t,B',h1,hf,h2⟩)|⟨js,t,B',h1,hj,hf,h2⟩
  ·exact .pure t h1 c1 (by rw[a2s];exact hK _ h2)
  ·exact .eff t B' h1 c1 (by rw[a2s];exact hK _ h2)
  ·exact .gen (a1s o2) t B' h1 (zbu c2) hf c1 (by rw[a2s];exact hK _ h2)
  ·exact .genx js t B' h1 hj hf c1 (by rw[a2s];exact hK _ h2)
 unfold a1T a08
 rw[g1]
 exact .pure _ (OpP.clo ho hc) a1 (by rw[a2s];exact u _ _ h)
theorem a4F (all rest:List Oper) (K:AS→Prop) {X:Env→Bx→Prop} (hx:∀ e b,X e b→a1T P n all rest ⟨e,b⟩ K):∀ (l:List Oper) (env:Env) (B:Bx),a1n n l=true→a43 P all l env B X→a1T P n all (l++rest) ⟨env,B⟩ K
 |[],env,B,_,h=>hx _ _ h
 |o::os,env,B,hd,h=>by
  simp only[a1n,List.all_cons,zag] at hd
  obtain⟨⟨u,aa⟩,q⟩:=hd
  refine a2K h (fun h=>?_) (fun h=>⟨u,by rw[a2s];exact a4F all rest K hx os _ B q h⟩)
  rcases a37 h with (⟨t,h1,h2⟩|⟨t,B',h1,h2⟩|⟨t,B',h1,hf,h2⟩)|⟨js,t,B',h1,hj,hf,h2⟩
  ·exact .pure t h1 u (by rw[a2s];exact a4F all rest K hx os _ B q h2)
  ·exact .eff t B' h1 u (by rw[a2s];exact a4F all rest K hx os _ B' q h2)
  ·exact .gen (a1s o) t B' h1 (zbu aa) hf u (by rw[a2s];exact a4F all rest K hx os _ B' q h2)
  ·exact .genx js t B' h1 hj hf u (by rw[a2s];exact a4F all rest K hx os _ B' q h2)
def c3K (P:Program) (all:List Oper) (env:Env) (B:Bx) (K:Env→Bx→Prop):List Oper→Prop
  |o::post=>o.guard=none∧∃ f captured cs,o.op= .makeFunc (.func f) #[] (List.toArray captured)∧cellsOf P env captured=some cs∧a43 P all post (a15 env o.dst (.one (.clo f cs))) B K
  |[]=>False
theorem AWP.cloS {id:Nat} {l:List Oper} {env:Env} {B:Bx} (k:Nat) (hd:a1n n l=true)
  (h:∀ K:Env→Bx→Prop,(∀ e b,Q .normal ⟨e,b⟩→K e b)→a43 P l (l.take k) env B fun e b=>c3K P l e b K (l.drop k)):AWP P n (.region id l.toArray false) ⟨env,B⟩ Q:=by
 refine AWP.region_seq fun K hK=>?_
 have u:=hd
 unfold a1n at u
 rw[← zbt k l,zcs,zag] at u
 have hs:a1T P n l (l.take k++l.drop k) ⟨env,B⟩ K:=by
  refine a4F l (l.drop k) K (X:=fun e b=>c3K P l e b (fun e b=>K ⟨e,b⟩) (l.drop k)) ?_ (l.take k) env B u.1 (h (fun e b=>K ⟨e,b⟩) fun e b q=>hK _ q)
  generalize l.drop k=dr at u
  intro e b hc
  match dr,u.2,hc with
  |o::post,hd2,⟨hg,f,captured,cs,ho,hcs,hp⟩=>
   simp only[List.all_cons,zag] at hd2
   unfold a1T a08
   rw[hg]
   exact .pure _ (OpP.clo ho hcs) hd2.1.1 (by rw[a2s];exact a1K l K post _ b hd2.2 hp)
 rwa[zbt] at hs
end Go.Sx

