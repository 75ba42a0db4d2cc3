/- Lemmas; conditions: as each states. -/
import Derived.Test.YtajfdbdklphonaaGreatDm11o
open Go.Proofs.Tryz renaming prog → zP
open List renaming length_map → lB, take_length → lK, drop_length → lL, mem_of_getElem? → lP
open Go.Sx.AWP renaming range → xC, lenB → xE
open Nat renaming reduceBEq → D, reduceBNe → E, reduceAdd → H, reduceSub → J, reduceMul → N, reduceLeDiff → O, reduceLT → U, reduceEqDiff → V
open Int renaming reduceToNat → W, reduceLE → Y, reduceLT → Z, reduceEq → zL
open Bool renaming not_eq_true' → zM, not_eq_false' → zN
set_option linter.unusedVariables false
set_option linter.unusedSimpArgs false
set_option maxRecDepth 20000
set_option maxHeartbeats 16000000
namespace Go.Proofs.YtajfdbdklphonaaGreat
open Go Go.Sx
theorem var_ne1 {s : List UInt8} (h : isVarB s = true) : decide (s = []) = false := by
 cases s with
 | nil => exact absurd h (by decide)
 | cons a l => simp
end Go.Proofs.YtajfdbdklphonaaGreat