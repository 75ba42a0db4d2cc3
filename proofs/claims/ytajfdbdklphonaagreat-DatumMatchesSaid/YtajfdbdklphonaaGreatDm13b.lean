/- Lemmas; conditions: as each states. -/
import Derived.Test.YtajfdbdklphonaaGreatDm13a
open Go.Proofs.Tryz renaming prog → zP
open List renaming length_map → lB, take_length → lK, drop_length → lL, mem_of_getElem? → lP
open Go.Sx.AWP renaming range → xC, lenB → xE
open Nat renaming reduceBEq → D, reduceBNe → E, reduceAdd → H, reduceSub → J, reduceMul → N, reduceLeDiff → O, reduceLT → U, reduceEqDiff → V
open Int renaming reduceToNat → W, reduceLE → Y, reduceLT → Z, reduceEq → zL
open Bool renaming not_eq_true' → zM, not_eq_false' → zN
set_option linter.unusedVariables false
set_option linter.unusedSimpArgs false
set_option maxRecDepth 20000
set_option maxHeartbeats 16000000
namespace Go.Proofs.YtajfdbdklphonaaGreat
open Go Go.Sx
set_option maxHeartbeats 64000000 in
theorem good_b (g : Grd) (ih : ∀ k ∈ g.kids, PC zP 128 [Gt k] (Bo (treeG k))) (hiv : isVarB g.name = false) (hk : g.kind = 5 ∨ g.kind = 6 ∨ g.kind = 7 ∨ g.kind = 8 ∨ g.kind = 9 ∨ g.kind = 10 ∨ g.kind = 11 ∨ g.kind = 12 ∨ g.kind = 13 ∨ g.kind = 14 ∨ g.kind = 15 ∨ g.kind = 16 ∨ g.kind = 17) : PC zP 128 [Gt g] (Bo (treeG g)) := by
 have htr := treeG_eq g
 have hz0 : decide ((0 : Int) < (g.kids.length : Int)) = !decide ((g.kids.length : Int) = 0) := by rw [← Bool.coe_iff_coe]; simp only [decide_eq_true_eq, Bool.not_eq_true', decide_eq_false_iff_not]; omega
 rcases hk with hk | hk | hk | hk | hk | hk | hk | hk | hk | hk | hk | hk | hk
 iterate 13
  ·
   refine PCB.ob Tryz.func128 Tryz.ntmps128 Tryz.results128 ?_
   repeat' (first | (simp only [go_sem, D, E, H, J, N, O, U, reduceCtorEq, V, W, Y, Z, zL, encG_eq g, hk, hiv, lB] <;> refine nf ?_) | (refine stp ?_; intro K hK) | (apply hK; clear hK K) | refine stn ?_ | (with_reducible refine ⟨_, refIsVariable_c _, ?_⟩) | refine stq ?_ | (clear hK K))
   any_goals (refine fin0 ?_; rw [htr]; simp only [vG, badG, bodyG, connG, testG, intG, textG, keyZ, hk, hz0, Int.reduceEq, Int.reduceLE, *, zb, Bool.not_not, cT, cF, dT, dF]; done)
theorem var_ne {s : List UInt8} (h : isVarB s = true) : decide (s = []) = false := by
 cases s with
 | nil => exact absurd h (by decide)
 | cons a l => simp
set_option maxHeartbeats 64000000 in
theorem good_c (g : Grd) (ih : ∀ k ∈ g.kids, PC zP 128 [Gt k] (Bo (treeG k))) (hiv : isVarB g.name = true) (hk : g.kind = 1 ∨ g.kind = 2 ∨ g.kind = 3 ∨ g.kind = 4) : PC zP 128 [Gt g] (Bo (treeG g)) := by
 have htr := treeG_eq g
 have hz0 : decide ((0 : Int) < (g.kids.length : Int)) = !decide ((g.kids.length : Int) = 0) := by rw [← Bool.coe_iff_coe]; simp only [decide_eq_true_eq, Bool.not_eq_true', decide_eq_false_iff_not]; omega
 have hne := var_ne hiv
 rcases hk with hk | hk | hk | hk
 iterate 4
  ·
   refine PCB.ob Tryz.func128 Tryz.ntmps128 Tryz.results128 ?_
   repeat' (first | (simp only [go_sem, D, E, H, J, N, O, U, reduceCtorEq, V, W, Y, Z, zL, encG_eq g, hk, hiv, lB] <;> refine nf ?_) | (refine stp ?_; intro K hK) | (apply hK; clear hK K) | refine stn ?_ | (with_reducible refine ⟨_, refIsVariable_c _, ?_⟩) | refine stq ?_ | (clear hK K))
   any_goals (refine fin0 ?_; rw [htr]; simp only [vG, badG, bodyG, connG, testG, intG, textG, keyZ, hk, hz0, Int.reduceEq, Int.reduceLE, *, zb, Bool.not_not, cT, cF, dT, dF]; done)
end Go.Proofs.YtajfdbdklphonaaGreat
set_option maxRecDepth 20000
set_option maxHeartbeats 16000000
namespace Go.Proofs.YtajfdbdklphonaaGreat
open Go Go.Sx
end Go.Proofs.YtajfdbdklphonaaGreat