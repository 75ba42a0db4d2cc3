/- A part of the proof: lemmas about the walk of the program (module D41.T5b00 of the prover). No conditions beyond those that each lemma states. -/
import Derived.Test.YtmpfdejckbceiaaD41T5a
set_option linter.unusedSimpArgs false
set_option linter.unusedVariables false
set_option maxRecDepth 20000
namespace Go.Proofs.Ytmpfdejckbceiaa
open Go Go.Sx

set_option maxHeartbeats 40000000 in
theorem divides_b00 (a b q r c : Int) (sum bN bZ : Bool) (B : Int) (hq : intRes [100, 105, 118] a b = (intDat q, [])) (hr : intRes [114, 101, 109] a b = (intDat r, []))
    (h0 : decide (b = 0) = false) (hA : decide (a = -9223372036854775808) = false) (hB1 : false = true → decide (b = -1) = false) (hR : decide (r = 0) = false) (hN : decide (b = -9223372036854775808) = bN) (hZ : decide (0 ≤ b) = bZ) (hZ' : decide (b < 0) = !bZ)
    (e1 : IntKind.i64.wrap (IntKind.i64.wrap (q * b) + r) = a) (hs : false = false → (decide (r < 0) == decide (a < 0)) = true) (hB : (if b < 0 then IntKind.i64.wrap (0 - b) else b) = B)
    (hab1 : bN = false → decide (B ≤ r) = false) (hab2 : bN = false → decide (r ≤ IntKind.i64.wrap (0 - B)) = false)
    (hc : (intRes [43] a b).1.num = c) (hi : isInt (intRes [43] a b) = sum) (hsub : sum = true → intRes [45] c b = (intDat a, []))
    (hF1 : bZ = true → decide (a ≤ IntKind.i64.wrap (9223372036854775807 - if 0 > b then 0 else b)) = sum) (hF2 : bZ = false → decide (IntKind.i64.wrap (-9223372036854775808 - if 0 < b then 0 else b) ≤ a) = sum) :
    PC Try.prog 4 [I .i64 a, I .i64 b] (Bo true) := by
  cases bN <;> cases bZ <;> cases sum
  all_goals (refine PCB.of_body Try.func4 rfl (by decide) Try.ntmps4 Try.results4 rfl rfl rfl ?_ rfl rfl)
  repeat' (first
    | (with_reducible refine seqVC_stepN rfl fun K hK => ?_; (try simp only [go_sem, Nat.reduceBEq, Nat.reduceBNe, Nat.reduceAdd, Nat.reduceSub, Nat.reduceMul, Nat.reduceLeDiff, Nat.reduceLT, reduceCtorEq, Nat.reduceEqDiff, Int.reduceToNat, Int.reduceLE, Int.reduceLT, Int.reduceEq, hq, hr, e1, hB, hc, hi, h0, hA, hB1, hR, hN, hZ, hZ', hs, hab1, hab2, hsub, hF1, hF2, num_int, isInt_int]); all_goals fail_if_success guard_target =ₛ False)
    | (with_reducible refine seqVC_stepG rfl (by with_unfolding_all rfl) fun K hK => ?_; (try simp only [go_sem, Nat.reduceBEq, Nat.reduceBNe, Nat.reduceAdd, Nat.reduceSub, Nat.reduceMul, Nat.reduceLeDiff, Nat.reduceLT, reduceCtorEq, Nat.reduceEqDiff, Int.reduceToNat, Int.reduceLE, Int.reduceLT, Int.reduceEq, hq, hr, e1, hB, hc, hi, h0, hA, hB1, hR, hN, hZ, hZ', hs, hab1, hab2, hsub, hF1, hF2, num_int, isInt_int]); all_goals fail_if_success guard_target =ₛ False)
    | with_reducible refine seqVC_nil ?_
    | (with_reducible refine hK _ _ ?_; clear hK K)
    | (with_reducible refine hK _ ?_; clear hK K)
    | with_reducible refine AWP.seq fun K hK => ?_
    | (with_reducible refine AWP.seqR (by kernel_rfl) fun K hK => ?_)
    | (with_reducible refine parVC_stepN rfl fun K hK => ?_; (try simp only [go_sem, Nat.reduceBEq, Nat.reduceBNe, Nat.reduceAdd, Nat.reduceSub, Nat.reduceMul, Nat.reduceLeDiff, Nat.reduceLT, reduceCtorEq, Nat.reduceEqDiff, Int.reduceToNat, Int.reduceLE, Int.reduceLT, Int.reduceEq, hq, hr, e1, hB, hc, hi, h0, hA, hB1, hR, hN, hZ, hZ', hs, hab1, hab2, hsub, hF1, hF2, num_int, isInt_int]); all_goals fail_if_success guard_target =ₛ False)
    | (with_reducible refine parVC_stepG rfl (by with_unfolding_all rfl) fun K hK => ?_; (try simp only [go_sem, Nat.reduceBEq, Nat.reduceBNe, Nat.reduceAdd, Nat.reduceSub, Nat.reduceMul, Nat.reduceLeDiff, Nat.reduceLT, reduceCtorEq, Nat.reduceEqDiff, Int.reduceToNat, Int.reduceLE, Int.reduceLT, Int.reduceEq, hq, hr, e1, hB, hc, hi, h0, hA, hB1, hR, hN, hZ, hZ', hs, hab1, hab2, hsub, hF1, hF2, num_int, isInt_int]); all_goals fail_if_success guard_target =ₛ False)
    | with_reducible refine parVC_nil ?_
    | (with_reducible refine parEVC_stepN rfl fun K hK => ?_; (try simp only [go_sem, Nat.reduceBEq, Nat.reduceBNe, Nat.reduceAdd, Nat.reduceSub, Nat.reduceMul, Nat.reduceLeDiff, Nat.reduceLT, reduceCtorEq, Nat.reduceEqDiff, Int.reduceToNat, Int.reduceLE, Int.reduceLT, Int.reduceEq, hq, hr, e1, hB, hc, hi, h0, hA, hB1, hR, hN, hZ, hZ', hs, hab1, hab2, hsub, hF1, hF2, num_int, isInt_int]); all_goals fail_if_success guard_target =ₛ False)
    | (with_reducible refine parEVC_stepG rfl (by with_unfolding_all rfl) fun K hK => ?_; (try simp only [go_sem, Nat.reduceBEq, Nat.reduceBNe, Nat.reduceAdd, Nat.reduceSub, Nat.reduceMul, Nat.reduceLeDiff, Nat.reduceLT, reduceCtorEq, Nat.reduceEqDiff, Int.reduceToNat, Int.reduceLE, Int.reduceLT, Int.reduceEq, hq, hr, e1, hB, hc, hi, h0, hA, hB1, hR, hN, hZ, hZ', hs, hab1, hab2, hsub, hF1, hF2, num_int, isInt_int]); all_goals fail_if_success guard_target =ₛ False)
    | with_reducible refine parEVC_nil ?_
    | (with_reducible refine AWP.cond (by with_unfolding_all rfl) (fun h => ?_) (fun h => ?_); all_goals (try simp only [Bool.not_eq_true', Bool.not_eq_false'] at h); (all_goals try first | (exact absurd h Bool.false_ne_true) | (exact absurd h.symm Bool.false_ne_true) | (exact absurd h (by decide))); all_goals (with_reducible refine AWP.keep [0, 1, 2, 3, 4, 5, 6, 7, 8, 9, 10, 11, 12] ?_; simp only [keepL, List.lookup_cons, List.lookup_nil, Nat.reduceBEq]))
    | with_reducible refine AWP.skip ?_
    | with_reducible refine AWP.ret ?_
    | with_reducible refine AWP.block ?_
    | with_reducible refine AWP.exit ?_
    | (with_reducible refine ⟨fun h => ?_, fun h => ?_⟩ <;> (try simp only [Bool.not_eq_true', Bool.not_eq_false'] at h) <;> simp only [h, go_sem, Nat.reduceBEq, Nat.reduceBNe, Nat.reduceAdd, Nat.reduceSub, Nat.reduceMul, Nat.reduceLeDiff, Nat.reduceLT, reduceCtorEq, Nat.reduceEqDiff, Int.reduceToNat, Int.reduceLE, Int.reduceLT, Int.reduceEq, hq, hr, e1, hB, hc, hi, h0, hA, hB1, hR, hN, hZ, hZ', hs, hab1, hab2, hsub, hF1, hF2, num_int, isInt_int])
    | (with_reducible refine ⟨_, integer_c _ (by decide) _ _, ?_⟩; try simp only [go_sem, Nat.reduceBEq, Nat.reduceBNe, Nat.reduceAdd, Nat.reduceSub, Nat.reduceMul, Nat.reduceLeDiff, Nat.reduceLT, reduceCtorEq, Nat.reduceEqDiff, Int.reduceToNat, Int.reduceLE, Int.reduceLT, Int.reduceEq, hq, hr, e1, hB, hc, hi, h0, hA, hB1, hR, hN, hZ, hZ', hs, hab1, hab2, hsub, hF1, hF2, num_int, isInt_int])
    | (with_reducible refine ⟨_, abs_c _, ?_⟩; try simp only [go_sem, Nat.reduceBEq, Nat.reduceBNe, Nat.reduceAdd, Nat.reduceSub, Nat.reduceMul, Nat.reduceLeDiff, Nat.reduceLT, reduceCtorEq, Nat.reduceEqDiff, Int.reduceToNat, Int.reduceLE, Int.reduceLT, Int.reduceEq, hq, hr, e1, hB, hc, hi, h0, hA, hB1, hR, hN, hZ, hZ', hs, hab1, hab2, hsub, hF1, hF2, num_int, isInt_int])
    | (with_reducible refine ⟨_, awake_c, ?_⟩; try simp only [go_sem, Nat.reduceBEq, Nat.reduceBNe, Nat.reduceAdd, Nat.reduceSub, Nat.reduceMul, Nat.reduceLeDiff, Nat.reduceLT, reduceCtorEq, Nat.reduceEqDiff, Int.reduceToNat, Int.reduceLE, Int.reduceLT, Int.reduceEq, hq, hr, e1, hB, hc, hi, h0, hA, hB1, hR, hN, hZ, hZ', hs, hab1, hab2, hsub, hF1, hF2, num_int, isInt_int])
    | (with_reducible refine AWP.parR mixed (by kernel_rfl) fun K hK => ?_)
    | (simp only [go_sem, Nat.reduceBEq, Nat.reduceBNe, Nat.reduceAdd, Nat.reduceSub, Nat.reduceMul, Nat.reduceLeDiff, Nat.reduceLT, reduceCtorEq, Nat.reduceEqDiff, Int.reduceToNat, Int.reduceLE, Int.reduceLT, Int.reduceEq, hq, hr, e1, hB, hc, hi, h0, hA, hB1, hR, hN, hZ, hZ', hs, hab1, hab2, hsub, hF1, hF2, num_int, isInt_int])
    | (clear hK K))
  all_goals exact fun _ h => by cases h
end Go.Proofs.Ytmpfdejckbceiaa
