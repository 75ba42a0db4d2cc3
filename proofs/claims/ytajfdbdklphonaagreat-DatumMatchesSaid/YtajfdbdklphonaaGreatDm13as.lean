/- Lemmas; conditions: as each states. -/
import Derived.Test.YtajfdbdklphonaaGreatDm13aq
open Go.Proofs.Tryz renaming prog → zP
open List renaming length_map → lB, take_length → lK, drop_length → lL, mem_of_getElem? → lP
open Go.Sx.AWP renaming range → xC, lenB → xE
open Nat renaming reduceBEq → D, reduceBNe → E, reduceAdd → H, reduceSub → J, reduceMul → N, reduceLeDiff → O, reduceLT → U, reduceEqDiff → V
open Int renaming reduceToNat → W, reduceLE → Y, reduceLT → Z, reduceEq → zL
open Bool renaming not_eq_true' → zM, not_eq_false' → zN
set_option linter.unusedVariables false
set_option linter.unusedSimpArgs false
set_option maxRecDepth 20000
set_option maxHeartbeats 16000000
namespace Go.Proofs.YtajfdbdklphonaaGreat
open Go Go.Sx
theorem VG3 (g : Grd) (hk0 : g.kind = 13 ∨ g.kind = 14 ∨ g.kind = 15 ∨ g.kind = 16 ∨ g.kind = 17) : PC zP 150 [Gt g] (Bo (vG g)) := by
 rcases hk0 with hk | hk | hk | hk | hk
 all_goals
  refine PCB.ob Tryz.func150 Tryz.ntmps150 Tryz.results150 ?_
  repeat' (first | (simp only [go_sem, D, E, H, J, N, O, U, reduceCtorEq, V, W, Y, Z, zL, encG_eq, hk, testG, intG, lB] <;> refine nf ?_) | (refine stp ?_; intro K hK) | (apply hK; clear hK K) | refine stn ?_ | (refine AWP.cnd ?_ ?_ <;> intro h <;> (try simp only [zM, zN] at h)) | (refine ⟨fun h => ?_, fun h => ?_⟩ <;> (try simp only [zM, zN] at h) <;> try simp only [h]) | (with_reducible first | refine ⟨_, isTest_c _, ?_⟩ | refine ⟨_, usesInt_c _, ?_⟩ | refine ⟨_, identIsVariable_c _, ?_⟩ | refine ⟨_, identIsAtom_c _, ?_⟩ | refine ⟨_, identValidKey_e _, ?_⟩) | refine stq ?_ | (clear hK K))
  all_goals (first | exact lf | (refine fin0 ?_; simp only [vG, badG, bodyG, connG, testG, intG, textG, keyZ, hk, Int.reduceEq, Int.reduceLE, *, zb, cT, cF, dT, dF] <;> rfl))
end Go.Proofs.YtajfdbdklphonaaGreat