/- Lemmas of the proof. -/
import Derived.Test.YthbcdhfiibpeaaaGreatTb1
import Derived.Test.YthbcdhfiibpeaaaGreatTb2
open Nat renaming reduceBEq → zA, reduceBNe → zB, reduceAdd → zC, reduceSub → zD, reduceMul → zE, reduceLeDiff → zF, reduceLT → zG, reduceEqDiff → zH
open Int renaming reduceToNat → zI, reduceLE → zJ, reduceLT → zK, reduceEq → zL
open Bool renaming not_eq_true' → zM, not_eq_false' → zN
set_option linter.unusedSimpArgs false
set_option linter.unusedVariables false
set_option maxRecDepth 20000
set_option maxHeartbeats 64000000
namespace Go.Proofs.YthbcdhfiibpeaaaGreat
open Go Go.Sx
theorem boolean_bad (l m n : List Int) (raw : List NodeD) (q : Int) (S T : List NodeD) (v w : Val) (X1 X2 X3 X4 X5 X6 X7 X8 : TyD) (wq : Int) (Av Bv Aw Bw : Bool) (H : BoolW l m n raw q S T v w X1 X2 X3 X4 X5 X6 X7 X8 wq Av Bv Aw Bw) (hwq : decide (wq = 0) = false) :
  PC Tryz.prog 5 [.one (.dat (.sl 1 (l.map encInt))), .one (.dat (.sl 1 (m.map encInt))), .one (.dat (.sl 1 (n.map encInt))), Tt raw q] (Bo true) := by
 obtain ⟨g1, g2, g3, hS, d1, d2, cw, cz, c1, c2, c3, c4, c5, c6, c7, c8, v1, v2, v3, v4, v5, v6, v7, v8, v9b, w1, w2, w3, w4, w5, w6, w7, w8, w9b⟩ := H
 have b1 : (true == false) = false := rfl
 have b2 : (false == true) = false := rfl
 have b3 : (true == true) = true := rfl
 have b4 : (false == false) = true := rfl
 refine PCB.ob Tryz.func5 Tryz.ntmps5 Tryz.results5 ?_
 repeat' (first | (simp only [go_sem, zA, zB, zC, zD, zE, zF, zG, reduceCtorEq, zH, zI, zJ, zK, zL, List.length_map, g1, g2, g3, hwq]; all_goals refine nf ?_) | (refine stp ?_; intro K hK) | (apply hK; clear hK K) | refine stn ?_ | (with_reducible first | refine ⟨_, hS, ?_⟩ | refine ⟨_, d1, ?_⟩ | refine ⟨_, d2, ?_⟩ | refine ⟨_, cw, ?_⟩) | refine stq ?_ | fail)
 refine AWP.loopF (X := Nat) (fun i => [(14, I .i64 i)]) (fun i => []) [7, 9, 10, 11, 12, 13] [7, 9, 10, 11, 12] (fun i => i ≤ 2) (fun i => 2 - i) (0) (by refine sts ?_; exact Gh.tt []) ?_ ?_
 ·exact Nat.zero_le _
 rintro i hi
 have hi3 : i = 0 ∨ i = 1 ∨ i = 2 := by omega
 rcases hi3 with rfl | rfl | rfl
 ·
  refine sts ?_
  cases Av <;> cases Bv
  all_goals
   repeat' (first | (simp only [go_sem, zA, zB, zC, zD, zE, zF, zG, reduceCtorEq, zH, zI, zJ, zK, zL, hwq, b1, b2, b3, b4]; all_goals refine nf ?_) | (refine stp ?_; intro K hK) | (apply hK; clear hK K) | refine stn ?_ | (with_reducible first | refine ⟨_, v1, ?_⟩ | refine ⟨_, v2, ?_⟩ | refine ⟨_, v3, ?_⟩ | refine ⟨_, v4, ?_⟩ | refine ⟨_, v5, ?_⟩ | refine ⟨_, v6, ?_⟩ | refine ⟨_, v7, ?_⟩ | refine ⟨_, v8, ?_⟩ | refine ⟨_, v9b hwq, ?_⟩ | refine ⟨_, c1, ?_⟩ | refine ⟨_, c2, ?_⟩ | refine ⟨_, c3, ?_⟩ | refine ⟨_, c4, ?_⟩ | refine ⟨_, c5, ?_⟩ | refine ⟨_, c6, ?_⟩ | refine ⟨_, c7, ?_⟩) | (refine stp' ?_; intro K hK) | (clear hK K))
  all_goals (refine ⟨1, by omega, by omega, Gh.tt []⟩)
 ·
  refine sts ?_
  cases Aw <;> cases Bw
  all_goals
   repeat' (first | (simp only [go_sem, zA, zB, zC, zD, zE, zF, zG, reduceCtorEq, zH, zI, zJ, zK, zL, hwq, b1, b2, b3, b4]; all_goals refine nf ?_) | (refine stp ?_; intro K hK) | (apply hK; clear hK K) | refine stn ?_ | (with_reducible first | refine ⟨_, w1, ?_⟩ | refine ⟨_, w2, ?_⟩ | refine ⟨_, w3, ?_⟩ | refine ⟨_, w4, ?_⟩ | refine ⟨_, w5, ?_⟩ | refine ⟨_, w6, ?_⟩ | refine ⟨_, w7, ?_⟩ | refine ⟨_, w8, ?_⟩ | refine ⟨_, w9b hwq, ?_⟩ | refine ⟨_, c1, ?_⟩ | refine ⟨_, c2, ?_⟩ | refine ⟨_, c3, ?_⟩ | refine ⟨_, c4, ?_⟩ | refine ⟨_, c5, ?_⟩ | refine ⟨_, c6, ?_⟩ | refine ⟨_, c7, ?_⟩) | (refine stp' ?_; intro K hK) | (clear hK K))
  all_goals (refine ⟨2, by omega, by omega, Gh.tt []⟩)
 ·
  refine sts ?_
  repeat' (first | (simp only [go_sem, zA, zB, zC, zD, zE, zF, zG, reduceCtorEq, zH, zI, zJ, zK, zL, hwq]; all_goals refine nf ?_) | (refine stp ?_; intro K hK) | (apply hK; clear hK K) | refine stn ?_ | (with_reducible first | refine ⟨_, c8, ?_⟩ | refine ⟨_, cz, ?_⟩ | refine ⟨_, awake7_c, ?_⟩) | refine stq ?_ | (clear hK K))
  all_goals (first | exact fun _ h => absurd h List.not_mem_nil | (refine fin0 ?_; rfl))
end Go.Proofs.YthbcdhfiibpeaaaGreat

