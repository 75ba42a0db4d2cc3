/- Lemmas of the proof. -/
import Derived.Test.YthbcdhfiibpeaaaGreatProg
import Derived.Test.YthbcdhfiibpeaaaGreatTm4
set_option linter.unusedSimpArgs false
set_option linter.unusedVariables false
set_option maxRecDepth 20000
set_option maxHeartbeats 64000000
namespace Go.Proofs.YthbcdhfiibpeaaaGreat
open Go Go.Sx
theorem mixed:Tryz.prog.follows .mixedOrders=true:=by kernel_rfl
@[go_sem] theorem sz2:szT Tryz.prog 2=some 1:=by kernel_rfl
@[go_sem] theorem ag2:a1w Tryz.prog 2=some false:=by kernel_rfl
@[go_sem] theorem kd2:kdT Tryz.prog 2=some (.int .i64):=by kernel_rfl
@[go_sem] theorem ze2:a01 Tryz.prog 2=some [.int .i64 0]:=by kernel_rfl
@[go_sem] theorem sz3:szT Tryz.prog 3=some 1:=by kernel_rfl
@[go_sem] theorem ag3:a1w Tryz.prog 3=some false:=by kernel_rfl
@[go_sem] theorem kd3:kdT Tryz.prog 3=some (.int .i64):=by kernel_rfl
@[go_sem] theorem ze3:a01 Tryz.prog 3=some [.int .i64 0]:=by kernel_rfl
@[go_sem] theorem sz4:szT Tryz.prog 4=some 1:=by kernel_rfl
@[go_sem] theorem ag4:a1w Tryz.prog 4=some false:=by kernel_rfl
@[go_sem] theorem kd4:kdT Tryz.prog 4=some (.bool):=by kernel_rfl
@[go_sem] theorem ze4:a01 Tryz.prog 4=some [.bool false]:=by kernel_rfl
@[go_sem] theorem sz5:szT Tryz.prog 5=some 1:=by kernel_rfl
@[go_sem] theorem ag5:a1w Tryz.prog 5=some false:=by kernel_rfl
@[go_sem] theorem kd5:kdT Tryz.prog 5=some (.int .u8):=by kernel_rfl
@[go_sem] theorem ze5:a01 Tryz.prog 5=some [.int .u8 0]:=by kernel_rfl
@[go_sem] theorem sz6:szT Tryz.prog 6=some 1:=by kernel_rfl
@[go_sem] theorem ag6:a1w Tryz.prog 6=some false:=by kernel_rfl
@[go_sem] theorem kd6:kdT Tryz.prog 6=some (.int .u8):=by kernel_rfl
@[go_sem] theorem ze6:a01 Tryz.prog 6=some [.int .u8 0]:=by kernel_rfl
@[go_sem] theorem sz9:szT Tryz.prog 9=some 1:=by kernel_rfl
@[go_sem] theorem ag9:a1w Tryz.prog 9=some false:=by kernel_rfl
@[go_sem] theorem kd9:kdT Tryz.prog 9=some (.str):=by kernel_rfl
@[go_sem] theorem ni9:a2M Tryz.prog 9=true:=by kernel_rfl
@[go_sem] theorem ze9:a01 Tryz.prog 9=some [.str []]:=by kernel_rfl
@[go_sem] theorem if20:c76 Tryz.prog 20=true:=by kernel_rfl
@[go_sem] theorem sz22:szT Tryz.prog 22=some 1:=by kernel_rfl
@[go_sem] theorem c7i:a1w Tryz.prog 22=some false:=by kernel_rfl
@[go_sem] theorem kd22:kdT Tryz.prog 22=some (.other):=by kernel_rfl
@[go_sem] theorem el22:elT Tryz.prog 22=some (1,false):=by kernel_rfl
@[go_sem] theorem bs22:bsT Tryz.prog 22=some (3,1):=by kernel_rfl
@[go_sem] theorem by22:byT Tryz.prog 22=some 8:=by kernel_rfl
@[go_sem] theorem ni22:a2M Tryz.prog 22=true:=by kernel_rfl
@[go_sem] theorem ze22:a01 Tryz.prog 22=some [.nil 1]:=by kernel_rfl
@[go_sem] theorem sz24:szT Tryz.prog 24=some 1:=by kernel_rfl
@[go_sem] theorem ag24:a1w Tryz.prog 24=some false:=by kernel_rfl
@[go_sem] theorem kd24:kdT Tryz.prog 24=some (.other):=by kernel_rfl
@[go_sem] theorem el24:elT Tryz.prog 24=some (8,true):=by kernel_rfl
@[go_sem] theorem bs24:bsT Tryz.prog 24=some (60,8):=by kernel_rfl
@[go_sem] theorem by24:byT Tryz.prog 24=some 104:=by kernel_rfl
@[go_sem] theorem ni24:a2M Tryz.prog 24=true:=by kernel_rfl
@[go_sem] theorem ze24:a01 Tryz.prog 24=some [.nil 8]:=by kernel_rfl
@[go_sem] theorem sz25:szT Tryz.prog 25=some 2:=by kernel_rfl
@[go_sem] theorem ag25:a1w Tryz.prog 25=some true:=by kernel_rfl
@[go_sem] theorem kd25:kdT Tryz.prog 25=some (.other):=by kernel_rfl
@[go_sem] theorem c8K:a15 Tryz.prog 25 0=some (0,1,false):=by kernel_rfl
@[go_sem] theorem c8L:a1R Tryz.prog 25 0=some (0,1,24):=by kernel_rfl
@[go_sem] theorem c8M:a15 Tryz.prog 25 1=some (1,1,false):=by kernel_rfl
@[go_sem] theorem c8N:a1R Tryz.prog 25 1=some (1,1,3):=by kernel_rfl
@[go_sem] theorem fo25:a0T Tryz.prog 25=true:=by kernel_rfl
@[go_sem] theorem ze25:a01 Tryz.prog 25=some [.nil 8, .int .i64 0]:=by kernel_rfl
@[go_sem] theorem sz26:szT Tryz.prog 26=some 2:=by kernel_rfl
@[go_sem] theorem ag26:a1w Tryz.prog 26=some true:=by kernel_rfl
@[go_sem] theorem kd26:kdT Tryz.prog 26=some (.other):=by kernel_rfl
@[go_sem] theorem c8O:a15 Tryz.prog 26 0=some (0,1,false):=by kernel_rfl
@[go_sem] theorem c8P:a1R Tryz.prog 26 0=some (0,1,24):=by kernel_rfl
@[go_sem] theorem c8Q:a15 Tryz.prog 26 1=some (1,1,false):=by kernel_rfl
@[go_sem] theorem c8R:a1R Tryz.prog 26 1=some (1,1,3):=by kernel_rfl
@[go_sem] theorem fo26:a0T Tryz.prog 26=true:=by kernel_rfl
@[go_sem] theorem ze26:a01 Tryz.prog 26=some [.nil 8, .int .i64 0]:=by kernel_rfl
@[go_sem] theorem sz27:szT Tryz.prog 27=some 1:=by kernel_rfl
@[go_sem] theorem ag27:a1w Tryz.prog 27=some false:=by kernel_rfl
@[go_sem] theorem kd27:kdT Tryz.prog 27=some (.other):=by kernel_rfl
@[go_sem] theorem el27:elT Tryz.prog 27=some (7,true):=by kernel_rfl
@[go_sem] theorem bs27:bsT Tryz.prog 27=some (32,7):=by kernel_rfl
@[go_sem] theorem by27:byT Tryz.prog 27=some 128:=by kernel_rfl
@[go_sem] theorem ni27:a2M Tryz.prog 27=true:=by kernel_rfl
@[go_sem] theorem ze27:a01 Tryz.prog 27=some [.nil 7]:=by kernel_rfl
@[go_sem] theorem sz28:szT Tryz.prog 28=some 1:=by kernel_rfl
@[go_sem] theorem ag28:a1w Tryz.prog 28=some false:=by kernel_rfl
@[go_sem] theorem kd28:kdT Tryz.prog 28=some (.other):=by kernel_rfl
@[go_sem] theorem el28:elT Tryz.prog 28=some (2,true):=by kernel_rfl
@[go_sem] theorem bs28:bsT Tryz.prog 28=some (117,2):=by kernel_rfl
@[go_sem] theorem by28:byT Tryz.prog 28=some 24:=by kernel_rfl
@[go_sem] theorem ni28:a2M Tryz.prog 28=true:=by kernel_rfl
@[go_sem] theorem ze28:a01 Tryz.prog 28=some [.nil 2]:=by kernel_rfl
@[go_sem] theorem sz29:szT Tryz.prog 29=some 1:=by kernel_rfl
@[go_sem] theorem ag29:a1w Tryz.prog 29=some false:=by kernel_rfl
@[go_sem] theorem kd29:kdT Tryz.prog 29=some (.other):=by kernel_rfl
@[go_sem] theorem el29:elT Tryz.prog 29=some (9,true):=by kernel_rfl
@[go_sem] theorem bs29:bsT Tryz.prog 29=some (50,9):=by kernel_rfl
@[go_sem] theorem by29:byT Tryz.prog 29=some 160:=by kernel_rfl
@[go_sem] theorem ni29:a2M Tryz.prog 29=true:=by kernel_rfl
@[go_sem] theorem ze29:a01 Tryz.prog 29=some [.nil 9]:=by kernel_rfl
@[go_sem] theorem sz30:szT Tryz.prog 30=some 1:=by kernel_rfl
@[go_sem] theorem ag30:a1w Tryz.prog 30=some false:=by kernel_rfl
@[go_sem] theorem kd30:kdT Tryz.prog 30=some (.other):=by kernel_rfl
@[go_sem] theorem el30:elT Tryz.prog 30=some (1,false):=by kernel_rfl
@[go_sem] theorem bs30:bsT Tryz.prog 30=some (9,1):=by kernel_rfl
@[go_sem] theorem by30:byT Tryz.prog 30=some 16:=by kernel_rfl
@[go_sem] theorem ni30:a2M Tryz.prog 30=true:=by kernel_rfl
@[go_sem] theorem ze30:a01 Tryz.prog 30=some [.nil 1]:=by kernel_rfl
@[go_sem] theorem sz31:szT Tryz.prog 31=some 7:=by kernel_rfl
@[go_sem] theorem ag31:a1w Tryz.prog 31=some true:=by kernel_rfl
@[go_sem] theorem kd31:kdT Tryz.prog 31=some (.other):=by kernel_rfl
@[go_sem] theorem c8S:a15 Tryz.prog 31 0=some (0,1,false):=by kernel_rfl
@[go_sem] theorem c8T:a1R Tryz.prog 31 0=some (0,1,3):=by kernel_rfl
@[go_sem] theorem c8U:a15 Tryz.prog 31 1=some (1,1,false):=by kernel_rfl
@[go_sem] theorem c8V:a1R Tryz.prog 31 1=some (1,1,2):=by kernel_rfl
@[go_sem] theorem c8W:a15 Tryz.prog 31 2=some (2,1,false):=by kernel_rfl
@[go_sem] theorem c8X:a1R Tryz.prog 31 2=some (2,1,9):=by kernel_rfl
@[go_sem] theorem c8Y:a15 Tryz.prog 31 3=some (3,1,false):=by kernel_rfl
@[go_sem] theorem c8Z:a1R Tryz.prog 31 3=some (3,1,27):=by kernel_rfl
@[go_sem] theorem c80:a15 Tryz.prog 31 4=some (4,1,false):=by kernel_rfl
@[go_sem] theorem c81:a1R Tryz.prog 31 4=some (4,1,28):=by kernel_rfl
@[go_sem] theorem c82:a15 Tryz.prog 31 5=some (5,1,false):=by kernel_rfl
@[go_sem] theorem c83:a1R Tryz.prog 31 5=some (5,1,29):=by kernel_rfl
@[go_sem] theorem c84:a15 Tryz.prog 31 6=some (6,1,false):=by kernel_rfl
@[go_sem] theorem c85:a1R Tryz.prog 31 6=some (6,1,30):=by kernel_rfl
@[go_sem] theorem fo31:a0T Tryz.prog 31=true:=by kernel_rfl
@[go_sem] theorem ze31:a01 Tryz.prog 31=some [.int .i64 0, .int .i64 0, .str [], .nil 7, .nil 2, .nil 9, .nil 1]:=by kernel_rfl
@[go_sem] theorem sz32:szT Tryz.prog 32=some 7:=by kernel_rfl
@[go_sem] theorem ag32:a1w Tryz.prog 32=some true:=by kernel_rfl
@[go_sem] theorem kd32:kdT Tryz.prog 32=some (.other):=by kernel_rfl
@[go_sem] theorem c86:a15 Tryz.prog 32 0=some (0,1,false):=by kernel_rfl
@[go_sem] theorem c87:a1R Tryz.prog 32 0=some (0,1,3):=by kernel_rfl
@[go_sem] theorem c88:a15 Tryz.prog 32 1=some (1,1,false):=by kernel_rfl
@[go_sem] theorem c89:a1R Tryz.prog 32 1=some (1,1,2):=by kernel_rfl
@[go_sem] theorem c9a:a15 Tryz.prog 32 2=some (2,1,false):=by kernel_rfl
@[go_sem] theorem c9b:a1R Tryz.prog 32 2=some (2,1,9):=by kernel_rfl
@[go_sem] theorem c9c:a15 Tryz.prog 32 3=some (3,1,false):=by kernel_rfl
@[go_sem] theorem c9d:a1R Tryz.prog 32 3=some (3,1,27):=by kernel_rfl
@[go_sem] theorem c9e:a15 Tryz.prog 32 4=some (4,1,false):=by kernel_rfl
@[go_sem] theorem c9f:a1R Tryz.prog 32 4=some (4,1,28):=by kernel_rfl
@[go_sem] theorem c9g:a15 Tryz.prog 32 5=some (5,1,false):=by kernel_rfl
@[go_sem] theorem c9h:a1R Tryz.prog 32 5=some (5,1,29):=by kernel_rfl
@[go_sem] theorem c9i:a15 Tryz.prog 32 6=some (6,1,false):=by kernel_rfl
@[go_sem] theorem c9j:a1R Tryz.prog 32 6=some (6,1,30):=by kernel_rfl
@[go_sem] theorem fo32:a0T Tryz.prog 32=true:=by kernel_rfl
@[go_sem] theorem ze32:a01 Tryz.prog 32=some [.int .i64 0, .int .i64 0, .str [], .nil 7, .nil 2, .nil 9, .nil 1]:=by kernel_rfl
@[go_sem] theorem sz37:szT Tryz.prog 37=some 1:=by kernel_rfl
@[go_sem] theorem ag37:a1w Tryz.prog 37=some false:=by kernel_rfl
@[go_sem] theorem kd37:kdT Tryz.prog 37=some (.int .i64):=by kernel_rfl
@[go_sem] theorem ze37:a01 Tryz.prog 37=some [.int .i64 0]:=by kernel_rfl
@[go_sem] theorem sz39:szT Tryz.prog 39=some 1:=by kernel_rfl
@[go_sem] theorem ag39:a1w Tryz.prog 39=some false:=by kernel_rfl
@[go_sem] theorem kd39:kdT Tryz.prog 39=some (.int .u64):=by kernel_rfl
@[go_sem] theorem ze39:a01 Tryz.prog 39=some [.int .u64 0]:=by kernel_rfl
@[go_sem] theorem sz43:szT Tryz.prog 43=some 1:=by kernel_rfl
@[go_sem] theorem ag43:a1w Tryz.prog 43=some false:=by kernel_rfl
@[go_sem] theorem kd43:kdT Tryz.prog 43=some (.other):=by kernel_rfl
@[go_sem] theorem el43:elT Tryz.prog 43=some (2,true):=by kernel_rfl
@[go_sem] theorem bs43:bsT Tryz.prog 43=some (26,2):=by kernel_rfl
@[go_sem] theorem by43:byT Tryz.prog 43=some 32:=by kernel_rfl
@[go_sem] theorem ni43:a2M Tryz.prog 43=true:=by kernel_rfl
@[go_sem] theorem ze43:a01 Tryz.prog 43=some [.nil 2]:=by kernel_rfl
@[go_sem] theorem sz45:szT Tryz.prog 45=some 1:=by kernel_rfl
@[go_sem] theorem ag45:a1w Tryz.prog 45=some false:=by kernel_rfl
@[go_sem] theorem kd45:kdT Tryz.prog 45=some (.other):=by kernel_rfl
@[go_sem] theorem sz46:szT Tryz.prog 46=some 2:=by kernel_rfl
@[go_sem] theorem ag46:a1w Tryz.prog 46=some true:=by kernel_rfl
@[go_sem] theorem kd46:kdT Tryz.prog 46=some (.other):=by kernel_rfl
@[go_sem] theorem c9k:a15 Tryz.prog 46 0=some (0,1,false):=by kernel_rfl
@[go_sem] theorem c9l:a1R Tryz.prog 46 0=some (0,1,22):=by kernel_rfl
@[go_sem] theorem c9m:a15 Tryz.prog 46 1=some (1,1,false):=by kernel_rfl
@[go_sem] theorem c9n:a1R Tryz.prog 46 1=some (1,1,3):=by kernel_rfl
@[go_sem] theorem fo46:a0T Tryz.prog 46=true:=by kernel_rfl
@[go_sem] theorem ze46:a01 Tryz.prog 46=some [.nil 1, .int .i64 0]:=by kernel_rfl
@[go_sem] theorem sz47:szT Tryz.prog 47=some 2:=by kernel_rfl
@[go_sem] theorem ag47:a1w Tryz.prog 47=some true:=by kernel_rfl
@[go_sem] theorem kd47:kdT Tryz.prog 47=some (.other):=by kernel_rfl
@[go_sem] theorem c9o:a15 Tryz.prog 47 0=some (0,1,false):=by kernel_rfl
@[go_sem] theorem c9p:a1R Tryz.prog 47 0=some (0,1,22):=by kernel_rfl
@[go_sem] theorem c9q:a15 Tryz.prog 47 1=some (1,1,false):=by kernel_rfl
@[go_sem] theorem c9r:a1R Tryz.prog 47 1=some (1,1,3):=by kernel_rfl
@[go_sem] theorem fo47:a0T Tryz.prog 47=true:=by kernel_rfl
@[go_sem] theorem ze47:a01 Tryz.prog 47=some [.nil 1, .int .i64 0]:=by kernel_rfl
@[go_sem] theorem sz49:szT Tryz.prog 49=some 9:=by kernel_rfl
@[go_sem] theorem ag49:a1w Tryz.prog 49=some true:=by kernel_rfl
@[go_sem] theorem kd49:kdT Tryz.prog 49=some (.other):=by kernel_rfl
@[go_sem] theorem c9s:a15 Tryz.prog 49 0=some (0,1,false):=by kernel_rfl
@[go_sem] theorem c9t:a1R Tryz.prog 49 0=some (0,1,27):=by kernel_rfl
@[go_sem] theorem c9u:a15 Tryz.prog 49 1=some (1,1,false):=by kernel_rfl
@[go_sem] theorem c9v:a1R Tryz.prog 49 1=some (1,1,4):=by kernel_rfl
@[go_sem] theorem c9w:a15 Tryz.prog 49 2=some (2,7,true):=by kernel_rfl
@[go_sem] theorem c9x:a1R Tryz.prog 49 2=some (2,7,32):=by kernel_rfl
@[go_sem] theorem fo49:a0T Tryz.prog 49=true:=by kernel_rfl
@[go_sem] theorem ze49:a01 Tryz.prog 49=some [.nil 7, .bool false, .int .i64 0, .int .i64 0, .str [], .nil 7, .nil 2, .nil 9, .nil 1]:=by kernel_rfl
@[go_sem] theorem sz50:szT Tryz.prog 50=some 9:=by kernel_rfl
@[go_sem] theorem ag50:a1w Tryz.prog 50=some true:=by kernel_rfl
@[go_sem] theorem kd50:kdT Tryz.prog 50=some (.other):=by kernel_rfl
@[go_sem] theorem c9y:a15 Tryz.prog 50 0=some (0,1,false):=by kernel_rfl
@[go_sem] theorem c9z:a1R Tryz.prog 50 0=some (0,1,27):=by kernel_rfl
@[go_sem] theorem c9A:a15 Tryz.prog 50 1=some (1,1,false):=by kernel_rfl
@[go_sem] theorem c9B:a1R Tryz.prog 50 1=some (1,1,4):=by kernel_rfl
@[go_sem] theorem c9C:a15 Tryz.prog 50 2=some (2,7,true):=by kernel_rfl
@[go_sem] theorem c9D:a1R Tryz.prog 50 2=some (2,7,32):=by kernel_rfl
@[go_sem] theorem fo50:a0T Tryz.prog 50=true:=by kernel_rfl
@[go_sem] theorem ze50:a01 Tryz.prog 50=some [.nil 7, .bool false, .int .i64 0, .int .i64 0, .str [], .nil 7, .nil 2, .nil 9, .nil 1]:=by kernel_rfl
@[go_sem] theorem sz57:szT Tryz.prog 57=some 1:=by kernel_rfl
@[go_sem] theorem ag57:a1w Tryz.prog 57=some false:=by kernel_rfl
@[go_sem] theorem kd57:kdT Tryz.prog 57=some (.other):=by kernel_rfl
@[go_sem] theorem el57:elT Tryz.prog 57=some (4,true):=by kernel_rfl
@[go_sem] theorem bs57:bsT Tryz.prog 57=some (119,4):=by kernel_rfl
@[go_sem] theorem by57:byT Tryz.prog 57=some 40:=by kernel_rfl
@[go_sem] theorem ni57:a2M Tryz.prog 57=true:=by kernel_rfl
@[go_sem] theorem ze57:a01 Tryz.prog 57=some [.nil 4]:=by kernel_rfl
@[go_sem] theorem sz58:szT Tryz.prog 58=some 2:=by kernel_rfl
@[go_sem] theorem ag58:a1w Tryz.prog 58=some true:=by kernel_rfl
@[go_sem] theorem kd58:kdT Tryz.prog 58=some (.other):=by kernel_rfl
@[go_sem] theorem ar58:arT Tryz.prog 58=some (2,1,false):=by kernel_rfl
@[go_sem] theorem c9E:a1R Tryz.prog 58 0=some (0,1,3):=by kernel_rfl
@[go_sem] theorem c9F:a1R Tryz.prog 58 1=some (1,1,3):=by kernel_rfl
@[go_sem] theorem fo58:a0T Tryz.prog 58=true:=by kernel_rfl
@[go_sem] theorem ze58:a01 Tryz.prog 58=some [.int .i64 0, .int .i64 0]:=by kernel_rfl
@[go_sem] theorem sz59:szT Tryz.prog 59=some 8:=by kernel_rfl
@[go_sem] theorem ag59:a1w Tryz.prog 59=some true:=by kernel_rfl
@[go_sem] theorem kd59:kdT Tryz.prog 59=some (.other):=by kernel_rfl
@[go_sem] theorem c9G:a15 Tryz.prog 59 0=some (0,1,false):=by kernel_rfl
@[go_sem] theorem c9H:a1R Tryz.prog 59 0=some (0,1,3):=by kernel_rfl
@[go_sem] theorem c9I:a15 Tryz.prog 59 1=some (1,1,false):=by kernel_rfl
@[go_sem] theorem c9J:a1R Tryz.prog 59 1=some (1,1,2):=by kernel_rfl
@[go_sem] theorem c9K:a15 Tryz.prog 59 2=some (2,1,false):=by kernel_rfl
@[go_sem] theorem c9L:a1R Tryz.prog 59 2=some (2,1,2):=by kernel_rfl
@[go_sem] theorem c9M:a15 Tryz.prog 59 3=some (3,1,false):=by kernel_rfl
@[go_sem] theorem c9N:a1R Tryz.prog 59 3=some (3,1,9):=by kernel_rfl
@[go_sem] theorem c9O:a15 Tryz.prog 59 4=some (4,1,false):=by kernel_rfl
@[go_sem] theorem c9P:a1R Tryz.prog 59 4=some (4,1,22):=by kernel_rfl
@[go_sem] theorem c9Q:a15 Tryz.prog 59 5=some (5,1,false):=by kernel_rfl
@[go_sem] theorem c9R:a1R Tryz.prog 59 5=some (5,1,57):=by kernel_rfl
@[go_sem] theorem c9S:a15 Tryz.prog 59 6=some (6,2,true):=by kernel_rfl
@[go_sem] theorem c9T:a1R Tryz.prog 59 6=some (6,2,58):=by kernel_rfl
@[go_sem] theorem fo59:a0T Tryz.prog 59=true:=by kernel_rfl
@[go_sem] theorem ze59:a01 Tryz.prog 59=some [.int .i64 0, .int .i64 0, .int .i64 0, .str [], .nil 1, .nil 4, .int .i64 0, .int .i64 0]:=by kernel_rfl
@[go_sem] theorem sz60:szT Tryz.prog 60=some 8:=by kernel_rfl
@[go_sem] theorem ag60:a1w Tryz.prog 60=some true:=by kernel_rfl
@[go_sem] theorem kd60:kdT Tryz.prog 60=some (.other):=by kernel_rfl
@[go_sem] theorem c9U:a15 Tryz.prog 60 0=some (0,1,false):=by kernel_rfl
@[go_sem] theorem c9V:a1R Tryz.prog 60 0=some (0,1,3):=by kernel_rfl
@[go_sem] theorem c9W:a15 Tryz.prog 60 1=some (1,1,false):=by kernel_rfl
@[go_sem] theorem c9X:a1R Tryz.prog 60 1=some (1,1,2):=by kernel_rfl
@[go_sem] theorem c9Y:a15 Tryz.prog 60 2=some (2,1,false):=by kernel_rfl
@[go_sem] theorem c9Z:a1R Tryz.prog 60 2=some (2,1,2):=by kernel_rfl
@[go_sem] theorem c90:a15 Tryz.prog 60 3=some (3,1,false):=by kernel_rfl
@[go_sem] theorem c91:a1R Tryz.prog 60 3=some (3,1,9):=by kernel_rfl
@[go_sem] theorem c92:a15 Tryz.prog 60 4=some (4,1,false):=by kernel_rfl
@[go_sem] theorem c93:a1R Tryz.prog 60 4=some (4,1,22):=by kernel_rfl
@[go_sem] theorem c94:a15 Tryz.prog 60 5=some (5,1,false):=by kernel_rfl
@[go_sem] theorem c95:a1R Tryz.prog 60 5=some (5,1,57):=by kernel_rfl
@[go_sem] theorem c96:a15 Tryz.prog 60 6=some (6,2,true):=by kernel_rfl
@[go_sem] theorem c97:a1R Tryz.prog 60 6=some (6,2,58):=by kernel_rfl
@[go_sem] theorem fo60:a0T Tryz.prog 60=true:=by kernel_rfl
@[go_sem] theorem ze60:a01 Tryz.prog 60=some [.int .i64 0, .int .i64 0, .int .i64 0, .str [], .nil 1, .nil 4, .int .i64 0, .int .i64 0]:=by kernel_rfl
@[go_sem] theorem sz72:szT Tryz.prog 72=some 1:=by kernel_rfl
@[go_sem] theorem ag72:a1w Tryz.prog 72=some false:=by kernel_rfl
@[go_sem] theorem kd72:kdT Tryz.prog 72=some (.other):=by kernel_rfl
@[go_sem] theorem el72:elT Tryz.prog 72=some (2,true):=by kernel_rfl
@[go_sem] theorem bs72:bsT Tryz.prog 72=some (83,2):=by kernel_rfl
@[go_sem] theorem by72:byT Tryz.prog 72=some 16:=by kernel_rfl
@[go_sem] theorem ni72:a2M Tryz.prog 72=true:=by kernel_rfl
@[go_sem] theorem ze72:a01 Tryz.prog 72=some [.nil 2]:=by kernel_rfl
@[go_sem] theorem sz82:szT Tryz.prog 82=some 2:=by kernel_rfl
@[go_sem] theorem ag82:a1w Tryz.prog 82=some true:=by kernel_rfl
@[go_sem] theorem kd82:kdT Tryz.prog 82=some (.other):=by kernel_rfl
@[go_sem] theorem c98:a15 Tryz.prog 82 0=some (0,1,false):=by kernel_rfl
@[go_sem] theorem c99:a1R Tryz.prog 82 0=some (0,1,2):=by kernel_rfl
@[go_sem] theorem d0a:a15 Tryz.prog 82 1=some (1,1,false):=by kernel_rfl
@[go_sem] theorem d0b:a1R Tryz.prog 82 1=some (1,1,2):=by kernel_rfl
@[go_sem] theorem fo82:a0T Tryz.prog 82=true:=by kernel_rfl
@[go_sem] theorem eqs82 (a0 b0:Int) (a1 b1:Int):a6v Tryz.prog 6 82 [.int .i64 a0, .int .i64 a1] [.int .i64 b0, .int .i64 b1]=some ((decide (a0=b0))&&((decide (a1=b1))&&true)):=by kernel_rfl
@[go_sem] theorem eqg82:Go.Program.eqGuardType Tryz.prog (Go.Program.depth Tryz.prog) 82=false:=by kernel_rfl
@[go_sem] theorem ze82:a01 Tryz.prog 82=some [.int .i64 0, .int .i64 0]:=by kernel_rfl
@[go_sem] theorem sz83:szT Tryz.prog 83=some 2:=by kernel_rfl
@[go_sem] theorem ag83:a1w Tryz.prog 83=some true:=by kernel_rfl
@[go_sem] theorem kd83:kdT Tryz.prog 83=some (.other):=by kernel_rfl
@[go_sem] theorem d0c:a15 Tryz.prog 83 0=some (0,1,false):=by kernel_rfl
@[go_sem] theorem d0d:a1R Tryz.prog 83 0=some (0,1,2):=by kernel_rfl
@[go_sem] theorem d0e:a15 Tryz.prog 83 1=some (1,1,false):=by kernel_rfl
@[go_sem] theorem d0f:a1R Tryz.prog 83 1=some (1,1,2):=by kernel_rfl
@[go_sem] theorem fo83:a0T Tryz.prog 83=true:=by kernel_rfl
@[go_sem] theorem eqs83 (a0 b0:Int) (a1 b1:Int):a6v Tryz.prog 6 83 [.int .i64 a0, .int .i64 a1] [.int .i64 b0, .int .i64 b1]=some ((decide (a0=b0))&&((decide (a1=b1))&&true)):=by kernel_rfl
@[go_sem] theorem eqg83:Go.Program.eqGuardType Tryz.prog (Go.Program.depth Tryz.prog) 83=false:=by kernel_rfl
@[go_sem] theorem ze83:a01 Tryz.prog 83=some [.int .i64 0, .int .i64 0]:=by kernel_rfl
@[go_sem] theorem sz92:szT Tryz.prog 92=some 1:=by kernel_rfl
@[go_sem] theorem ag92:a1w Tryz.prog 92=some false:=by kernel_rfl
@[go_sem] theorem kd92:kdT Tryz.prog 92=some (.other):=by kernel_rfl
@[go_sem] theorem el92:elT Tryz.prog 92=some (1,false):=by kernel_rfl
@[go_sem] theorem bs92:bsT Tryz.prog 92=some (4,1):=by kernel_rfl
@[go_sem] theorem by92:byT Tryz.prog 92=some 1:=by kernel_rfl
@[go_sem] theorem ni92:a2M Tryz.prog 92=true:=by kernel_rfl
@[go_sem] theorem ze92:a01 Tryz.prog 92=some [.nil 1]:=by kernel_rfl
@[go_sem] theorem sz104:szT Tryz.prog 104=some 1:=by kernel_rfl
@[go_sem] theorem ag104:a1w Tryz.prog 104=some false:=by kernel_rfl
@[go_sem] theorem kd104:kdT Tryz.prog 104=some (.other):=by kernel_rfl
@[go_sem] theorem ze104:a01 Tryz.prog 104=some [.fnil]:=by kernel_rfl
@[go_sem] theorem sz116:szT Tryz.prog 116=some 2:=by kernel_rfl
@[go_sem] theorem ag116:a1w Tryz.prog 116=some true:=by kernel_rfl
@[go_sem] theorem kd116:kdT Tryz.prog 116=some (.other):=by kernel_rfl
@[go_sem] theorem c78:a15 Tryz.prog 116 0=some (0,1,false):=by kernel_rfl
@[go_sem] theorem c79:a1R Tryz.prog 116 0=some (0,1,3):=by kernel_rfl
@[go_sem] theorem c8a:a15 Tryz.prog 116 1=some (1,1,false):=by kernel_rfl
@[go_sem] theorem c8b:a1R Tryz.prog 116 1=some (1,1,9):=by kernel_rfl
@[go_sem] theorem fo116:a0T Tryz.prog 116=true:=by kernel_rfl
@[go_sem] theorem d0g (a0 b0:Int) (a1 b1:List UInt8):a6v Tryz.prog 6 116 [.int .i64 a0, .str a1] [.int .i64 b0, .str b1]=some ((decide (a0=b0))&&((decide (a1=b1))&&true)):=by kernel_rfl
@[go_sem] theorem d0h:Go.Program.eqGuardType Tryz.prog (Go.Program.depth Tryz.prog) 116=false:=by kernel_rfl
@[go_sem] theorem ze116:a01 Tryz.prog 116=some [.int .i64 0, .str []]:=by kernel_rfl
@[go_sem] theorem sz117:szT Tryz.prog 117=some 2:=by kernel_rfl
@[go_sem] theorem ag117:a1w Tryz.prog 117=some true:=by kernel_rfl
@[go_sem] theorem kd117:kdT Tryz.prog 117=some (.other):=by kernel_rfl
@[go_sem] theorem c8c:a15 Tryz.prog 117 0=some (0,1,false):=by kernel_rfl
@[go_sem] theorem c8d:a1R Tryz.prog 117 0=some (0,1,3):=by kernel_rfl
@[go_sem] theorem c8e:a15 Tryz.prog 117 1=some (1,1,false):=by kernel_rfl
@[go_sem] theorem c8f:a1R Tryz.prog 117 1=some (1,1,9):=by kernel_rfl
@[go_sem] theorem fo117:a0T Tryz.prog 117=true:=by kernel_rfl
@[go_sem] theorem d0i (a0 b0:Int) (a1 b1:List UInt8):a6v Tryz.prog 6 117 [.int .i64 a0, .str a1] [.int .i64 b0, .str b1]=some ((decide (a0=b0))&&((decide (a1=b1))&&true)):=by kernel_rfl
@[go_sem] theorem d0j:Go.Program.eqGuardType Tryz.prog (Go.Program.depth Tryz.prog) 117=false:=by kernel_rfl
@[go_sem] theorem ze117:a01 Tryz.prog 117=some [.int .i64 0, .str []]:=by kernel_rfl
@[go_sem] theorem sz118:szT Tryz.prog 118=some 4:=by kernel_rfl
@[go_sem] theorem ag118:a1w Tryz.prog 118=some true:=by kernel_rfl
@[go_sem] theorem kd118:kdT Tryz.prog 118=some (.other):=by kernel_rfl
@[go_sem] theorem c8g:a15 Tryz.prog 118 0=some (0,2,true):=by kernel_rfl
@[go_sem] theorem c8h:a1R Tryz.prog 118 0=some (0,2,117):=by kernel_rfl
@[go_sem] theorem c8i:a15 Tryz.prog 118 1=some (2,1,false):=by kernel_rfl
@[go_sem] theorem c8j:a1R Tryz.prog 118 1=some (2,1,3):=by kernel_rfl
@[go_sem] theorem c8k:a15 Tryz.prog 118 2=some (3,1,false):=by kernel_rfl
@[go_sem] theorem c8l:a1R Tryz.prog 118 2=some (3,1,4):=by kernel_rfl
@[go_sem] theorem fo118:a0T Tryz.prog 118=true:=by kernel_rfl
@[go_sem] theorem d0k (a0 b0:Int) (a1 b1:List UInt8) (a2 b2:Int) (a3 b3:Bool):a6v Tryz.prog 6 118 [.int .i64 a0, .str a1, .int .i64 a2, .bool a3] [.int .i64 b0, .str b1, .int .i64 b2, .bool b3]=some (((decide (a0=b0))&&((decide (a1=b1))&&true))&&((decide (a2=b2))&&((a3==b3)&&true))):=by kernel_rfl
@[go_sem] theorem d0l:Go.Program.eqGuardType Tryz.prog (Go.Program.depth Tryz.prog) 118=false:=by kernel_rfl
@[go_sem] theorem ze118:a01 Tryz.prog 118=some [.int .i64 0, .str [], .int .i64 0, .bool false]:=by kernel_rfl
@[go_sem] theorem sz119:szT Tryz.prog 119=some 4:=by kernel_rfl
@[go_sem] theorem ag119:a1w Tryz.prog 119=some true:=by kernel_rfl
@[go_sem] theorem kd119:kdT Tryz.prog 119=some (.other):=by kernel_rfl
@[go_sem] theorem c8m:a15 Tryz.prog 119 0=some (0,2,true):=by kernel_rfl
@[go_sem] theorem c8n:a1R Tryz.prog 119 0=some (0,2,117):=by kernel_rfl
@[go_sem] theorem c8o:a15 Tryz.prog 119 1=some (2,1,false):=by kernel_rfl
@[go_sem] theorem c8p:a1R Tryz.prog 119 1=some (2,1,3):=by kernel_rfl
@[go_sem] theorem c8q:a15 Tryz.prog 119 2=some (3,1,false):=by kernel_rfl
@[go_sem] theorem c8r:a1R Tryz.prog 119 2=some (3,1,4):=by kernel_rfl
@[go_sem] theorem fo119:a0T Tryz.prog 119=true:=by kernel_rfl
@[go_sem] theorem d0m (a0 b0:Int) (a1 b1:List UInt8) (a2 b2:Int) (a3 b3:Bool):a6v Tryz.prog 6 119 [.int .i64 a0, .str a1, .int .i64 a2, .bool a3] [.int .i64 b0, .str b1, .int .i64 b2, .bool b3]=some (((decide (a0=b0))&&((decide (a1=b1))&&true))&&((decide (a2=b2))&&((a3==b3)&&true))):=by kernel_rfl
@[go_sem] theorem d0n:Go.Program.eqGuardType Tryz.prog (Go.Program.depth Tryz.prog) 119=false:=by kernel_rfl
@[go_sem] theorem ze119:a01 Tryz.prog 119=some [.int .i64 0, .str [], .int .i64 0, .bool false]:=by kernel_rfl
@[go_sem] theorem sz132:szT Tryz.prog 132=some 1:=by kernel_rfl
@[go_sem] theorem ag132:a1w Tryz.prog 132=some false:=by kernel_rfl
@[go_sem] theorem kd132:kdT Tryz.prog 132=some (.other):=by kernel_rfl
@[go_sem] theorem ze132:a01 Tryz.prog 132=some [.fnil]:=by kernel_rfl
@[go_sem] theorem sz138:szT Tryz.prog 138=some 1:=by kernel_rfl
@[go_sem] theorem ag138:a1w Tryz.prog 138=some false:=by kernel_rfl
@[go_sem] theorem kd138:kdT Tryz.prog 138=some (.other):=by kernel_rfl
@[go_sem] theorem ze138:a01 Tryz.prog 138=some [.fnil]:=by kernel_rfl
@[go_sem] theorem sz140:szT Tryz.prog 140=some 1:=by kernel_rfl
@[go_sem] theorem ag140:a1w Tryz.prog 140=some false:=by kernel_rfl
@[go_sem] theorem kd140:kdT Tryz.prog 140=some (.other):=by kernel_rfl
@[go_sem] theorem el140:elT Tryz.prog 140=some (1,false):=by kernel_rfl
@[go_sem] theorem bs140:bsT Tryz.prog 140=some (2,1):=by kernel_rfl
@[go_sem] theorem by140:byT Tryz.prog 140=some 8:=by kernel_rfl
@[go_sem] theorem ni140:a2M Tryz.prog 140=true:=by kernel_rfl
@[go_sem] theorem ze140:a01 Tryz.prog 140=some [.nil 1]:=by kernel_rfl
@[go_sem] theorem sz154:szT Tryz.prog 154=some 1:=by kernel_rfl
@[go_sem] theorem ag154:a1w Tryz.prog 154=some false:=by kernel_rfl
@[go_sem] theorem kd154:kdT Tryz.prog 154=some (.other):=by kernel_rfl
@[go_sem] theorem ze154:a01 Tryz.prog 154=some [.fnil]:=by kernel_rfl
@[go_sem] theorem sz167:szT Tryz.prog 167=some 1:=by kernel_rfl
@[go_sem] theorem ag167:a1w Tryz.prog 167=some false:=by kernel_rfl
@[go_sem] theorem kd167:kdT Tryz.prog 167=some (.int .i64):=by kernel_rfl
@[go_sem] theorem ze167:a01 Tryz.prog 167=some [.int .i64 0]:=by kernel_rfl
@[go_sem] theorem sz175:szT Tryz.prog 175=some 1:=by kernel_rfl
@[go_sem] theorem ag175:a1w Tryz.prog 175=some false:=by kernel_rfl
@[go_sem] theorem kd175:kdT Tryz.prog 175=some (.int .u32):=by kernel_rfl
@[go_sem] theorem ze175:a01 Tryz.prog 175=some [.int .u32 0]:=by kernel_rfl
@[go_sem] theorem sz177:szT Tryz.prog 177=some 1:=by kernel_rfl
@[go_sem] theorem ag177:a1w Tryz.prog 177=some false:=by kernel_rfl
@[go_sem] theorem kd177:kdT Tryz.prog 177=some (.int .u64):=by kernel_rfl
@[go_sem] theorem ze177:a01 Tryz.prog 177=some [.int .u64 0]:=by kernel_rfl
@[go_sem] theorem sz183:szT Tryz.prog 183=some 1:=by kernel_rfl
@[go_sem] theorem ag183:a1w Tryz.prog 183=some false:=by kernel_rfl
@[go_sem] theorem kd183:kdT Tryz.prog 183=some (.int .u64):=by kernel_rfl
@[go_sem] theorem ze183:a01 Tryz.prog 183=some [.int .u64 0]:=by kernel_rfl
@[go_sem] theorem sz187:szT Tryz.prog 187=some 1:=by kernel_rfl
@[go_sem] theorem ag187:a1w Tryz.prog 187=some false:=by kernel_rfl
@[go_sem] theorem kd187:kdT Tryz.prog 187=some (.other):=by kernel_rfl
@[go_sem] theorem sz191:szT Tryz.prog 191=some 1:=by kernel_rfl
@[go_sem] theorem ag191:a1w Tryz.prog 191=some false:=by kernel_rfl
@[go_sem] theorem kd191:kdT Tryz.prog 191=some (.other):=by kernel_rfl
end Go.Proofs.YthbcdhfiibpeaaaGreat

