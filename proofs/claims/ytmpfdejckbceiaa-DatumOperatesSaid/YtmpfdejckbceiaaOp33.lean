/- A part of the proof: lemmas about the walk of the program and about plain integers and lists. No conditions beyond those that each lemma states. -/
import Derived.Test.YtmpfdejckbceiaaOp30
set_option linter.unusedSimpArgs false
set_option linter.unusedVariables false
set_option maxRecDepth 20000
set_option maxHeartbeats 4000000
namespace Go.Proofs.Ytmpfdejckbceiaa
open Go Go.Sx

theorem ref2_not (x y : Dat) (op : List UInt8) (hop : op = [110, 111, 116]) : PC Try.prog 10 [S op, .one (.dat (.sl 13 [encDat x, encDat y]))] (outR failR) := by
  refine PCB.of_body Try.func10 rfl (by decide) Try.ntmps10 Try.results10 rfl rfl rfl ?_ rfl rfl
  have f0 : decide (op = [110, 111, 116]) = true := by rw [hop]; decide
  have f9 : decide (op = [97, 110, 100]) = false := by rw [hop]; decide
  have f10 : decide (op = [111, 114]) = false := by rw [hop]; decide
  have f8 : decide (op = [61, 61]) = false := by rw [hop]; decide
  have f1 : decide (op = [43]) = false := by rw [hop]; decide
  have f2 : decide (op = [45]) = false := by rw [hop]; decide
  have f3 : decide (op = [42]) = false := by rw [hop]; decide
  have f4 : decide (op = [100, 105, 118]) = false := by rw [hop]; decide
  have f5 : decide (op = [114, 101, 109]) = false := by rw [hop]; decide
  have f6 : decide (op = [60]) = false := by rw [hop]; decide
  have f7 : decide (op = [61, 60]) = false := by rw [hop]; decide
  repeat' (first
    | ((first | with_reducible refine seqVC_stepN rfl fun K hK => ?_ | with_reducible refine seqVC_stepG rfl (by with_unfolding_all rfl) fun K hK => ?_); (try simp only [go_sem, Nat.reduceBEq, Nat.reduceBNe, Nat.reduceAdd, Nat.reduceSub, Nat.reduceMul, Nat.reduceLeDiff, Nat.reduceLT, reduceCtorEq, Nat.reduceEqDiff, Int.reduceToNat, Int.reduceLE, Int.reduceLT, Int.reduceEq, f0, f9, f10, f8, f1, f2, f3, f4, f5, f6, f7, BEq.rfl]); all_goals fail_if_success guard_target =ₛ False)
    | with_reducible refine seqVC_nil ?_
    | (with_reducible refine hK _ _ _ ?_; clear hK K)
    | (with_reducible refine hK _ _ ?_; clear hK K)
    | (with_reducible refine hK _ ?_; clear hK K)
    | with_reducible refine AWP.seq fun K hK => ?_
    | (with_reducible refine AWP.seqR (by kernel_rfl) fun K hK => ?_)
    | ((first | with_reducible refine parVC_stepN rfl fun K hK => ?_ | with_reducible refine parVC_stepG rfl (by with_unfolding_all rfl) fun K hK => ?_ | with_reducible refine parEVC_stepN rfl fun K hK => ?_ | with_reducible refine parEVC_stepG rfl (by with_unfolding_all rfl) fun K hK => ?_ | with_reducible refine genVC_stepN rfl fun K hK => ?_ | with_reducible refine genVC_stepG rfl (by with_unfolding_all rfl) fun K hK => ?_); (try simp only [go_sem, Nat.reduceBEq, Nat.reduceBNe, Nat.reduceAdd, Nat.reduceSub, Nat.reduceMul, Nat.reduceLeDiff, Nat.reduceLT, reduceCtorEq, Nat.reduceEqDiff, Int.reduceToNat, Int.reduceLE, Int.reduceLT, Int.reduceEq, f0, f9, f10, f8, f1, f2, f3, f4, f5, f6, f7, BEq.rfl]); all_goals fail_if_success guard_target =ₛ False)
    | with_reducible refine parVC_nil ?_
    | with_reducible refine parEVC_nil ?_
    | with_reducible refine genVC_nil ?_
    | (with_reducible refine AWP.cond (by with_unfolding_all rfl) (fun h => ?_) (fun h => ?_); all_goals (try simp only [Bool.not_eq_true', Bool.not_eq_false'] at h); (all_goals try first | (exact absurd h Bool.false_ne_true) | (exact absurd h.symm Bool.false_ne_true) | (exact absurd h (by decide))))
    | with_reducible refine AWP.skip ?_
    | with_reducible refine AWP.ret ?_
    | with_reducible refine AWP.block ?_
    | with_reducible refine AWP.exit ?_
    | (with_reducible refine ⟨fun h => ?_, fun h => ?_⟩ <;> (try simp only [Bool.not_eq_true', Bool.not_eq_false'] at h) <;> simp only [h, go_sem, Nat.reduceBEq, Nat.reduceBNe, Nat.reduceAdd, Nat.reduceSub, Nat.reduceMul, Nat.reduceLeDiff, Nat.reduceLT, reduceCtorEq, Nat.reduceEqDiff, Int.reduceToNat, Int.reduceLE, Int.reduceLT, Int.reduceEq, f0, f9, f10, f8, f1, f2, f3, f4, f5, f6, f7, BEq.rfl])
    | (with_reducible refine AWP.segP (id := 21) 8 mixed (by kernel_rfl) fun K hK => ?_; simp only [List.take_succ_cons, List.take_zero, List.drop_succ_cons, List.drop_zero])
    | (with_reducible refine AWP.segP (id := 25) 10 mixed (by kernel_rfl) fun K hK => ?_; simp only [List.take_succ_cons, List.take_zero, List.drop_succ_cons, List.drop_zero])
    | (with_reducible refine AWP.segP (id := 27) 10 mixed (by kernel_rfl) fun K hK => ?_; simp only [List.take_succ_cons, List.take_zero, List.drop_succ_cons, List.drop_zero])
    | (with_reducible refine AWP.parR mixed (by kernel_rfl) fun K hK => ?_)
    | (with_reducible refine Or.inl ?_)
    | (simp only [go_sem, Nat.reduceBEq, Nat.reduceBNe, Nat.reduceAdd, Nat.reduceSub, Nat.reduceMul, Nat.reduceLeDiff, Nat.reduceLT, reduceCtorEq, Nat.reduceEqDiff, Int.reduceToNat, Int.reduceLE, Int.reduceLT, Int.reduceEq, f0, f9, f10, f8, f1, f2, f3, f4, f5, f6, f7, BEq.rfl])
    | (clear hK K))
  all_goals (refine fin0 ?_; simp only [outR, failR, Dt] <;> (first | rfl | (rw [encDat_eq zeroDat]; rfl)))
theorem ref2_eq (x y : Dat) (nx : hasFun x = false → NoNodes x) (ny : hasFun y = false → NoNodes y) (op : List UInt8) (hop : op = [61, 61]) : PC Try.prog 10 [S op, .one (.dat (.sl 13 [encDat x, encDat y]))] (outR (operR2 op x y)) := by
  have f0 : decide (op = [110, 111, 116]) = false := by rw [hop]; decide
  have f9 : decide (op = [97, 110, 100]) = false := by rw [hop]; decide
  have f10 : decide (op = [111, 114]) = false := by rw [hop]; decide
  have f8 : decide (op = [61, 61]) = true := by rw [hop]; decide
  have f1 : decide (op = [43]) = false := by rw [hop]; decide
  have f2 : decide (op = [45]) = false := by rw [hop]; decide
  have f3 : decide (op = [42]) = false := by rw [hop]; decide
  have f4 : decide (op = [100, 105, 118]) = false := by rw [hop]; decide
  have f5 : decide (op = [114, 101, 109]) = false := by rw [hop]; decide
  have f6 : decide (op = [60]) = false := by rw [hop]; decide
  have f7 : decide (op = [61, 60]) = false := by rw [hop]; decide
  cases n1 : hasFun x with
  | true =>
    refine PCB.of_body Try.func10 rfl (by decide) Try.ntmps10 Try.results10 rfl rfl rfl ?_ rfl rfl
    repeat' (first
      | ((first | with_reducible refine seqVC_stepN rfl fun K hK => ?_ | with_reducible refine seqVC_stepG rfl (by with_unfolding_all rfl) fun K hK => ?_); (try simp only [go_sem, Nat.reduceBEq, Nat.reduceBNe, Nat.reduceAdd, Nat.reduceSub, Nat.reduceMul, Nat.reduceLeDiff, Nat.reduceLT, reduceCtorEq, Nat.reduceEqDiff, Int.reduceToNat, Int.reduceLE, Int.reduceLT, Int.reduceEq, f0, f9, f10, f8, f1, f2, f3, f4, f5, f6, f7, n1, BEq.rfl]); all_goals fail_if_success guard_target =ₛ False)
      | with_reducible refine seqVC_nil ?_
      | (with_reducible refine hK _ _ _ ?_; clear hK K)
      | (with_reducible refine hK _ _ ?_; clear hK K)
      | (with_reducible refine hK _ ?_; clear hK K)
      | with_reducible refine AWP.seq fun K hK => ?_
      | (with_reducible refine AWP.seqR (by kernel_rfl) fun K hK => ?_)
      | ((first | with_reducible refine parVC_stepN rfl fun K hK => ?_ | with_reducible refine parVC_stepG rfl (by with_unfolding_all rfl) fun K hK => ?_ | with_reducible refine parEVC_stepN rfl fun K hK => ?_ | with_reducible refine parEVC_stepG rfl (by with_unfolding_all rfl) fun K hK => ?_ | with_reducible refine genVC_stepN rfl fun K hK => ?_ | with_reducible refine genVC_stepG rfl (by with_unfolding_all rfl) fun K hK => ?_); (try simp only [go_sem, Nat.reduceBEq, Nat.reduceBNe, Nat.reduceAdd, Nat.reduceSub, Nat.reduceMul, Nat.reduceLeDiff, Nat.reduceLT, reduceCtorEq, Nat.reduceEqDiff, Int.reduceToNat, Int.reduceLE, Int.reduceLT, Int.reduceEq, f0, f9, f10, f8, f1, f2, f3, f4, f5, f6, f7, n1, BEq.rfl]); all_goals fail_if_success guard_target =ₛ False)
      | with_reducible refine parVC_nil ?_
      | with_reducible refine parEVC_nil ?_
      | with_reducible refine genVC_nil ?_
      | (with_reducible refine AWP.cond (by with_unfolding_all rfl) (fun h => ?_) (fun h => ?_); all_goals (try simp only [Bool.not_eq_true', Bool.not_eq_false'] at h); (all_goals try first | (exact absurd h Bool.false_ne_true) | (exact absurd h.symm Bool.false_ne_true) | (exact absurd h (by decide))))
      | with_reducible refine AWP.skip ?_
      | with_reducible refine AWP.ret ?_
      | with_reducible refine AWP.block ?_
      | with_reducible refine AWP.exit ?_
      | (with_reducible refine ⟨fun h => ?_, fun h => ?_⟩ <;> (try simp only [Bool.not_eq_true', Bool.not_eq_false'] at h) <;> simp only [h, go_sem, Nat.reduceBEq, Nat.reduceBNe, Nat.reduceAdd, Nat.reduceSub, Nat.reduceMul, Nat.reduceLeDiff, Nat.reduceLT, reduceCtorEq, Nat.reduceEqDiff, Int.reduceToNat, Int.reduceLE, Int.reduceLT, Int.reduceEq, f0, f9, f10, f8, f1, f2, f3, f4, f5, f6, f7, n1, BEq.rfl])
      | ((first | (with_reducible refine ⟨_, refHasFunction_c x, ?_⟩)); try simp only [go_sem, Nat.reduceBEq, Nat.reduceBNe, Nat.reduceAdd, Nat.reduceSub, Nat.reduceMul, Nat.reduceLeDiff, Nat.reduceLT, reduceCtorEq, Nat.reduceEqDiff, Int.reduceToNat, Int.reduceLE, Int.reduceLT, Int.reduceEq, f0, f9, f10, f8, f1, f2, f3, f4, f5, f6, f7, n1, BEq.rfl])
      | (with_reducible refine AWP.segP (id := 21) 8 mixed (by kernel_rfl) fun K hK => ?_; simp only [List.take_succ_cons, List.take_zero, List.drop_succ_cons, List.drop_zero])
      | (with_reducible refine AWP.segP (id := 25) 10 mixed (by kernel_rfl) fun K hK => ?_; simp only [List.take_succ_cons, List.take_zero, List.drop_succ_cons, List.drop_zero])
      | (with_reducible refine AWP.segP (id := 27) 10 mixed (by kernel_rfl) fun K hK => ?_; simp only [List.take_succ_cons, List.take_zero, List.drop_succ_cons, List.drop_zero])
      | (with_reducible refine AWP.parR mixed (by kernel_rfl) fun K hK => ?_)
      | (with_reducible refine Or.inl ?_)
      | (simp only [go_sem, Nat.reduceBEq, Nat.reduceBNe, Nat.reduceAdd, Nat.reduceSub, Nat.reduceMul, Nat.reduceLeDiff, Nat.reduceLT, reduceCtorEq, Nat.reduceEqDiff, Int.reduceToNat, Int.reduceLE, Int.reduceLT, Int.reduceEq, f0, f9, f10, f8, f1, f2, f3, f4, f5, f6, f7, n1, BEq.rfl])
      | (clear hK K))
    all_goals (refine fin0 ?_; simp only [outR, operR2, f0, f9, f10, f8, f1, f2, f3, f4, f5, f6, f7, n1, Bool.not_true, Bool.not_false, Bool.and_true, Bool.and_false, Bool.or_false, Bool.or_true, Bool.false_or, Bool.true_or, Bool.true_and, Bool.false_and, cond_true, cond_false, failR, Dt] <;> (first | rfl | (rw [encDat_eq zeroDat]; rfl)))
  | false =>
  cases n2 : hasFun y with
  | true =>
    refine PCB.of_body Try.func10 rfl (by decide) Try.ntmps10 Try.results10 rfl rfl rfl ?_ rfl rfl
    repeat' (first
      | ((first | with_reducible refine seqVC_stepN rfl fun K hK => ?_ | with_reducible refine seqVC_stepG rfl (by with_unfolding_all rfl) fun K hK => ?_); (try simp only [go_sem, Nat.reduceBEq, Nat.reduceBNe, Nat.reduceAdd, Nat.reduceSub, Nat.reduceMul, Nat.reduceLeDiff, Nat.reduceLT, reduceCtorEq, Nat.reduceEqDiff, Int.reduceToNat, Int.reduceLE, Int.reduceLT, Int.reduceEq, f0, f9, f10, f8, f1, f2, f3, f4, f5, f6, f7, n1, n2, BEq.rfl]); all_goals fail_if_success guard_target =ₛ False)
      | with_reducible refine seqVC_nil ?_
      | (with_reducible refine hK _ _ _ ?_; clear hK K)
      | (with_reducible refine hK _ _ ?_; clear hK K)
      | (with_reducible refine hK _ ?_; clear hK K)
      | with_reducible refine AWP.seq fun K hK => ?_
      | (with_reducible refine AWP.seqR (by kernel_rfl) fun K hK => ?_)
      | ((first | with_reducible refine parVC_stepN rfl fun K hK => ?_ | with_reducible refine parVC_stepG rfl (by with_unfolding_all rfl) fun K hK => ?_ | with_reducible refine parEVC_stepN rfl fun K hK => ?_ | with_reducible refine parEVC_stepG rfl (by with_unfolding_all rfl) fun K hK => ?_ | with_reducible refine genVC_stepN rfl fun K hK => ?_ | with_reducible refine genVC_stepG rfl (by with_unfolding_all rfl) fun K hK => ?_); (try simp only [go_sem, Nat.reduceBEq, Nat.reduceBNe, Nat.reduceAdd, Nat.reduceSub, Nat.reduceMul, Nat.reduceLeDiff, Nat.reduceLT, reduceCtorEq, Nat.reduceEqDiff, Int.reduceToNat, Int.reduceLE, Int.reduceLT, Int.reduceEq, f0, f9, f10, f8, f1, f2, f3, f4, f5, f6, f7, n1, n2, BEq.rfl]); all_goals fail_if_success guard_target =ₛ False)
      | with_reducible refine parVC_nil ?_
      | with_reducible refine parEVC_nil ?_
      | with_reducible refine genVC_nil ?_
      | (with_reducible refine AWP.cond (by with_unfolding_all rfl) (fun h => ?_) (fun h => ?_); all_goals (try simp only [Bool.not_eq_true', Bool.not_eq_false'] at h); (all_goals try first | (exact absurd h Bool.false_ne_true) | (exact absurd h.symm Bool.false_ne_true) | (exact absurd h (by decide))))
      | with_reducible refine AWP.skip ?_
      | with_reducible refine AWP.ret ?_
      | with_reducible refine AWP.block ?_
      | with_reducible refine AWP.exit ?_
      | (with_reducible refine ⟨fun h => ?_, fun h => ?_⟩ <;> (try simp only [Bool.not_eq_true', Bool.not_eq_false'] at h) <;> simp only [h, go_sem, Nat.reduceBEq, Nat.reduceBNe, Nat.reduceAdd, Nat.reduceSub, Nat.reduceMul, Nat.reduceLeDiff, Nat.reduceLT, reduceCtorEq, Nat.reduceEqDiff, Int.reduceToNat, Int.reduceLE, Int.reduceLT, Int.reduceEq, f0, f9, f10, f8, f1, f2, f3, f4, f5, f6, f7, n1, n2, BEq.rfl])
      | ((first | (with_reducible refine ⟨_, refHasFunction_c x, ?_⟩) | (with_reducible refine ⟨_, refHasFunction_c y, ?_⟩)); try simp only [go_sem, Nat.reduceBEq, Nat.reduceBNe, Nat.reduceAdd, Nat.reduceSub, Nat.reduceMul, Nat.reduceLeDiff, Nat.reduceLT, reduceCtorEq, Nat.reduceEqDiff, Int.reduceToNat, Int.reduceLE, Int.reduceLT, Int.reduceEq, f0, f9, f10, f8, f1, f2, f3, f4, f5, f6, f7, n1, n2, BEq.rfl])
      | (with_reducible refine AWP.segP (id := 21) 8 mixed (by kernel_rfl) fun K hK => ?_; simp only [List.take_succ_cons, List.take_zero, List.drop_succ_cons, List.drop_zero])
      | (with_reducible refine AWP.segP (id := 25) 10 mixed (by kernel_rfl) fun K hK => ?_; simp only [List.take_succ_cons, List.take_zero, List.drop_succ_cons, List.drop_zero])
      | (with_reducible refine AWP.segP (id := 27) 10 mixed (by kernel_rfl) fun K hK => ?_; simp only [List.take_succ_cons, List.take_zero, List.drop_succ_cons, List.drop_zero])
      | (with_reducible refine AWP.parR mixed (by kernel_rfl) fun K hK => ?_)
      | (with_reducible refine Or.inl ?_)
      | (simp only [go_sem, Nat.reduceBEq, Nat.reduceBNe, Nat.reduceAdd, Nat.reduceSub, Nat.reduceMul, Nat.reduceLeDiff, Nat.reduceLT, reduceCtorEq, Nat.reduceEqDiff, Int.reduceToNat, Int.reduceLE, Int.reduceLT, Int.reduceEq, f0, f9, f10, f8, f1, f2, f3, f4, f5, f6, f7, n1, n2, BEq.rfl])
      | (clear hK K))
    all_goals (refine fin0 ?_; simp only [outR, operR2, f0, f9, f10, f8, f1, f2, f3, f4, f5, f6, f7, n1, n2, Bool.not_true, Bool.not_false, Bool.and_true, Bool.and_false, Bool.or_false, Bool.or_true, Bool.false_or, Bool.true_or, Bool.true_and, Bool.false_and, cond_true, cond_false, failR, Dt] <;> (first | rfl | (rw [encDat_eq zeroDat]; rfl)))
  | false =>
    have hs := sameDatum_c x y (nx n1) (ny n2)
    refine PCB.of_body Try.func10 rfl (by decide) Try.ntmps10 Try.results10 rfl rfl rfl ?_ rfl rfl
    repeat' (first
      | ((first | with_reducible refine seqVC_stepN rfl fun K hK => ?_ | with_reducible refine seqVC_stepG rfl (by with_unfolding_all rfl) fun K hK => ?_); (try simp only [go_sem, Nat.reduceBEq, Nat.reduceBNe, Nat.reduceAdd, Nat.reduceSub, Nat.reduceMul, Nat.reduceLeDiff, Nat.reduceLT, reduceCtorEq, Nat.reduceEqDiff, Int.reduceToNat, Int.reduceLE, Int.reduceLT, Int.reduceEq, f0, f9, f10, f8, f1, f2, f3, f4, f5, f6, f7, n1, n2, BEq.rfl]); all_goals fail_if_success guard_target =ₛ False)
      | with_reducible refine seqVC_nil ?_
      | (with_reducible refine hK _ _ _ ?_; clear hK K)
      | (with_reducible refine hK _ _ ?_; clear hK K)
      | (with_reducible refine hK _ ?_; clear hK K)
      | with_reducible refine AWP.seq fun K hK => ?_
      | (with_reducible refine AWP.seqR (by kernel_rfl) fun K hK => ?_)
      | ((first | with_reducible refine parVC_stepN rfl fun K hK => ?_ | with_reducible refine parVC_stepG rfl (by with_unfolding_all rfl) fun K hK => ?_ | with_reducible refine parEVC_stepN rfl fun K hK => ?_ | with_reducible refine parEVC_stepG rfl (by with_unfolding_all rfl) fun K hK => ?_ | with_reducible refine genVC_stepN rfl fun K hK => ?_ | with_reducible refine genVC_stepG rfl (by with_unfolding_all rfl) fun K hK => ?_); (try simp only [go_sem, Nat.reduceBEq, Nat.reduceBNe, Nat.reduceAdd, Nat.reduceSub, Nat.reduceMul, Nat.reduceLeDiff, Nat.reduceLT, reduceCtorEq, Nat.reduceEqDiff, Int.reduceToNat, Int.reduceLE, Int.reduceLT, Int.reduceEq, f0, f9, f10, f8, f1, f2, f3, f4, f5, f6, f7, n1, n2, BEq.rfl]); all_goals fail_if_success guard_target =ₛ False)
      | with_reducible refine parVC_nil ?_
      | with_reducible refine parEVC_nil ?_
      | with_reducible refine genVC_nil ?_
      | (with_reducible refine AWP.cond (by with_unfolding_all rfl) (fun h => ?_) (fun h => ?_); all_goals (try simp only [Bool.not_eq_true', Bool.not_eq_false'] at h); (all_goals try first | (exact absurd h Bool.false_ne_true) | (exact absurd h.symm Bool.false_ne_true) | (exact absurd h (by decide))))
      | with_reducible refine AWP.skip ?_
      | with_reducible refine AWP.ret ?_
      | with_reducible refine AWP.block ?_
      | with_reducible refine AWP.exit ?_
      | (with_reducible refine ⟨fun h => ?_, fun h => ?_⟩ <;> (try simp only [Bool.not_eq_true', Bool.not_eq_false'] at h) <;> simp only [h, go_sem, Nat.reduceBEq, Nat.reduceBNe, Nat.reduceAdd, Nat.reduceSub, Nat.reduceMul, Nat.reduceLeDiff, Nat.reduceLT, reduceCtorEq, Nat.reduceEqDiff, Int.reduceToNat, Int.reduceLE, Int.reduceLT, Int.reduceEq, f0, f9, f10, f8, f1, f2, f3, f4, f5, f6, f7, n1, n2, BEq.rfl])
      | ((first | (with_reducible refine ⟨_, refHasFunction_c x, ?_⟩) | (with_reducible refine ⟨_, refHasFunction_c y, ?_⟩) | (with_reducible refine ⟨_, hs, ?_⟩) | (with_reducible refine ⟨_, whether_c _, ?_⟩)); try simp only [go_sem, Nat.reduceBEq, Nat.reduceBNe, Nat.reduceAdd, Nat.reduceSub, Nat.reduceMul, Nat.reduceLeDiff, Nat.reduceLT, reduceCtorEq, Nat.reduceEqDiff, Int.reduceToNat, Int.reduceLE, Int.reduceLT, Int.reduceEq, f0, f9, f10, f8, f1, f2, f3, f4, f5, f6, f7, n1, n2, BEq.rfl])
      | (with_reducible refine AWP.segP (id := 21) 8 mixed (by kernel_rfl) fun K hK => ?_; simp only [List.take_succ_cons, List.take_zero, List.drop_succ_cons, List.drop_zero])
      | (with_reducible refine AWP.segP (id := 25) 10 mixed (by kernel_rfl) fun K hK => ?_; simp only [List.take_succ_cons, List.take_zero, List.drop_succ_cons, List.drop_zero])
      | (with_reducible refine AWP.segP (id := 27) 10 mixed (by kernel_rfl) fun K hK => ?_; simp only [List.take_succ_cons, List.take_zero, List.drop_succ_cons, List.drop_zero])
      | (with_reducible refine AWP.parR mixed (by kernel_rfl) fun K hK => ?_)
      | (with_reducible refine Or.inl ?_)
      | (simp only [go_sem, Nat.reduceBEq, Nat.reduceBNe, Nat.reduceAdd, Nat.reduceSub, Nat.reduceMul, Nat.reduceLeDiff, Nat.reduceLT, reduceCtorEq, Nat.reduceEqDiff, Int.reduceToNat, Int.reduceLE, Int.reduceLT, Int.reduceEq, f0, f9, f10, f8, f1, f2, f3, f4, f5, f6, f7, n1, n2, BEq.rfl])
      | (clear hK K))
    all_goals (refine fin0 ?_; simp only [outR, operR2, f0, f9, f10, f8, f1, f2, f3, f4, f5, f6, f7, n1, n2, Bool.not_true, Bool.not_false, Bool.and_true, Bool.and_false, Bool.or_false, Bool.or_true, Bool.false_or, Bool.true_or, Bool.true_and, Bool.false_and, cond_true, cond_false, failR, Dt] <;> (first | rfl | (rw [encDat_eq zeroDat]; rfl)))
end Go.Proofs.Ytmpfdejckbceiaa
set_option linter.unusedSimpArgs false
set_option linter.unusedVariables false
set_option maxRecDepth 20000
set_option maxHeartbeats 4000000
namespace Go.Proofs.Ytmpfdejckbceiaa
open Go Go.Sx

theorem ref2_bool (x y : Dat) (op : List UInt8) (hop : op = [97, 110, 100] ∨ op = [111, 114]) : PC Try.prog 10 [S op, .one (.dat (.sl 13 [encDat x, encDat y]))] (outR (operR2 op x y)) := by
  have hx := isBool_c x
  have hy := isBool_c y
  rw [encDat_eq] at hx hy
  rcases hop with hop | hop
  ·
    have f0 : decide (op = [110, 111, 116]) = false := by rw [hop]; decide
    have f9 : decide (op = [97, 110, 100]) = true := by rw [hop]; decide
    have f10 : decide (op = [111, 114]) = false := by rw [hop]; decide
    have f8 : decide (op = [61, 61]) = false := by rw [hop]; decide
    have f1 : decide (op = [43]) = false := by rw [hop]; decide
    have f2 : decide (op = [45]) = false := by rw [hop]; decide
    have f3 : decide (op = [42]) = false := by rw [hop]; decide
    have f4 : decide (op = [100, 105, 118]) = false := by rw [hop]; decide
    have f5 : decide (op = [114, 101, 109]) = false := by rw [hop]; decide
    have f6 : decide (op = [60]) = false := by rw [hop]; decide
    have f7 : decide (op = [61, 60]) = false := by rw [hop]; decide
    refine PCB.of_body Try.func10 rfl (by decide) Try.ntmps10 Try.results10 rfl rfl rfl ?_ rfl rfl
    cases n1 : isBoolD x <;> cases n2 : isBoolD y <;> cases n3 : decide (x.text = sTrue) <;> cases n4 : decide (y.text = sTrue)
    all_goals (have n3' := n3; have n4' := n4; unfold sTrue at n3' n4')
    repeat' (first
      | ((first | with_reducible refine seqVC_stepN rfl fun K hK => ?_ | with_reducible refine seqVC_stepG rfl (by with_unfolding_all rfl) fun K hK => ?_); (try simp only [go_sem, Nat.reduceBEq, Nat.reduceBNe, Nat.reduceAdd, Nat.reduceSub, Nat.reduceMul, Nat.reduceLeDiff, Nat.reduceLT, reduceCtorEq, Nat.reduceEqDiff, Int.reduceToNat, Int.reduceLE, Int.reduceLT, Int.reduceEq, f0, f9, f10, f8, f1, f2, f3, f4, f5, f6, f7, n1, n2, n3', n4', encDat_eq x, encDat_eq y, BEq.rfl]); all_goals fail_if_success guard_target =ₛ False)
      | with_reducible refine seqVC_nil ?_
      | (with_reducible refine hK _ _ _ ?_; clear hK K)
      | (with_reducible refine hK _ _ ?_; clear hK K)
      | (with_reducible refine hK _ ?_; clear hK K)
      | with_reducible refine AWP.seq fun K hK => ?_
      | (with_reducible refine AWP.seqR (by kernel_rfl) fun K hK => ?_)
      | ((first | with_reducible refine parVC_stepN rfl fun K hK => ?_ | with_reducible refine parVC_stepG rfl (by with_unfolding_all rfl) fun K hK => ?_ | with_reducible refine parEVC_stepN rfl fun K hK => ?_ | with_reducible refine parEVC_stepG rfl (by with_unfolding_all rfl) fun K hK => ?_ | with_reducible refine genVC_stepN rfl fun K hK => ?_ | with_reducible refine genVC_stepG rfl (by with_unfolding_all rfl) fun K hK => ?_); (try simp only [go_sem, Nat.reduceBEq, Nat.reduceBNe, Nat.reduceAdd, Nat.reduceSub, Nat.reduceMul, Nat.reduceLeDiff, Nat.reduceLT, reduceCtorEq, Nat.reduceEqDiff, Int.reduceToNat, Int.reduceLE, Int.reduceLT, Int.reduceEq, f0, f9, f10, f8, f1, f2, f3, f4, f5, f6, f7, n1, n2, n3', n4', encDat_eq x, encDat_eq y, BEq.rfl]); all_goals fail_if_success guard_target =ₛ False)
      | with_reducible refine parVC_nil ?_
      | with_reducible refine parEVC_nil ?_
      | with_reducible refine genVC_nil ?_
      | (with_reducible refine AWP.cond (by with_unfolding_all rfl) (fun h => ?_) (fun h => ?_); all_goals (try simp only [Bool.not_eq_true', Bool.not_eq_false'] at h); (all_goals try first | (exact absurd h Bool.false_ne_true) | (exact absurd h.symm Bool.false_ne_true) | (exact absurd h (by decide))))
      | with_reducible refine AWP.skip ?_
      | with_reducible refine AWP.ret ?_
      | with_reducible refine AWP.block ?_
      | with_reducible refine AWP.exit ?_
      | (with_reducible refine ⟨fun h => ?_, fun h => ?_⟩ <;> (try simp only [Bool.not_eq_true', Bool.not_eq_false'] at h) <;> simp only [h, go_sem, Nat.reduceBEq, Nat.reduceBNe, Nat.reduceAdd, Nat.reduceSub, Nat.reduceMul, Nat.reduceLeDiff, Nat.reduceLT, reduceCtorEq, Nat.reduceEqDiff, Int.reduceToNat, Int.reduceLE, Int.reduceLT, Int.reduceEq, f0, f9, f10, f8, f1, f2, f3, f4, f5, f6, f7, n1, n2, n3', n4', encDat_eq x, encDat_eq y, BEq.rfl])
      | ((first | (with_reducible refine ⟨_, hx, ?_⟩) | (with_reducible refine ⟨_, hy, ?_⟩) | (with_reducible refine ⟨_, whether_c _, ?_⟩)); try simp only [go_sem, Nat.reduceBEq, Nat.reduceBNe, Nat.reduceAdd, Nat.reduceSub, Nat.reduceMul, Nat.reduceLeDiff, Nat.reduceLT, reduceCtorEq, Nat.reduceEqDiff, Int.reduceToNat, Int.reduceLE, Int.reduceLT, Int.reduceEq, f0, f9, f10, f8, f1, f2, f3, f4, f5, f6, f7, n1, n2, n3', n4', encDat_eq x, encDat_eq y, BEq.rfl])
      | (with_reducible refine AWP.segP (id := 21) 8 mixed (by kernel_rfl) fun K hK => ?_; simp only [List.take_succ_cons, List.take_zero, List.drop_succ_cons, List.drop_zero])
      | (with_reducible refine AWP.segP (id := 25) 10 mixed (by kernel_rfl) fun K hK => ?_; simp only [List.take_succ_cons, List.take_zero, List.drop_succ_cons, List.drop_zero])
      | (with_reducible refine AWP.segP (id := 27) 10 mixed (by kernel_rfl) fun K hK => ?_; simp only [List.take_succ_cons, List.take_zero, List.drop_succ_cons, List.drop_zero])
      | (with_reducible refine AWP.parR mixed (by kernel_rfl) fun K hK => ?_)
      | (with_reducible refine Or.inl ?_)
      | (simp only [go_sem, Nat.reduceBEq, Nat.reduceBNe, Nat.reduceAdd, Nat.reduceSub, Nat.reduceMul, Nat.reduceLeDiff, Nat.reduceLT, reduceCtorEq, Nat.reduceEqDiff, Int.reduceToNat, Int.reduceLE, Int.reduceLT, Int.reduceEq, f0, f9, f10, f8, f1, f2, f3, f4, f5, f6, f7, n1, n2, n3', n4', encDat_eq x, encDat_eq y, BEq.rfl])
      | (clear hK K))
    all_goals (refine fin0 ?_; simp only [outR, operR2, boolR2, f0, f9, f10, f8, f1, f2, f3, f4, f5, f6, f7, n1, n2, n3, n4, Bool.not_true, Bool.not_false, Bool.and_true, Bool.and_false, Bool.or_false, Bool.or_true, Bool.false_or, Bool.true_or, Bool.true_and, Bool.false_and, cond_true, cond_false, failR, Dt] <;> (first | rfl | (rw [encDat_eq zeroDat]; rfl)))
  ·
    have f0 : decide (op = [110, 111, 116]) = false := by rw [hop]; decide
    have f9 : decide (op = [97, 110, 100]) = false := by rw [hop]; decide
    have f10 : decide (op = [111, 114]) = true := by rw [hop]; decide
    have f8 : decide (op = [61, 61]) = false := by rw [hop]; decide
    have f1 : decide (op = [43]) = false := by rw [hop]; decide
    have f2 : decide (op = [45]) = false := by rw [hop]; decide
    have f3 : decide (op = [42]) = false := by rw [hop]; decide
    have f4 : decide (op = [100, 105, 118]) = false := by rw [hop]; decide
    have f5 : decide (op = [114, 101, 109]) = false := by rw [hop]; decide
    have f6 : decide (op = [60]) = false := by rw [hop]; decide
    have f7 : decide (op = [61, 60]) = false := by rw [hop]; decide
    refine PCB.of_body Try.func10 rfl (by decide) Try.ntmps10 Try.results10 rfl rfl rfl ?_ rfl rfl
    cases n1 : isBoolD x <;> cases n2 : isBoolD y <;> cases n3 : decide (x.text = sTrue) <;> cases n4 : decide (y.text = sTrue)
    all_goals (have n3' := n3; have n4' := n4; unfold sTrue at n3' n4')
    repeat' (first
      | ((first | with_reducible refine seqVC_stepN rfl fun K hK => ?_ | with_reducible refine seqVC_stepG rfl (by with_unfolding_all rfl) fun K hK => ?_); (try simp only [go_sem, Nat.reduceBEq, Nat.reduceBNe, Nat.reduceAdd, Nat.reduceSub, Nat.reduceMul, Nat.reduceLeDiff, Nat.reduceLT, reduceCtorEq, Nat.reduceEqDiff, Int.reduceToNat, Int.reduceLE, Int.reduceLT, Int.reduceEq, f0, f9, f10, f8, f1, f2, f3, f4, f5, f6, f7, n1, n2, n3', n4', encDat_eq x, encDat_eq y, BEq.rfl]); all_goals fail_if_success guard_target =ₛ False)
      | with_reducible refine seqVC_nil ?_
      | (with_reducible refine hK _ _ _ ?_; clear hK K)
      | (with_reducible refine hK _ _ ?_; clear hK K)
      | (with_reducible refine hK _ ?_; clear hK K)
      | with_reducible refine AWP.seq fun K hK => ?_
      | (with_reducible refine AWP.seqR (by kernel_rfl) fun K hK => ?_)
      | ((first | with_reducible refine parVC_stepN rfl fun K hK => ?_ | with_reducible refine parVC_stepG rfl (by with_unfolding_all rfl) fun K hK => ?_ | with_reducible refine parEVC_stepN rfl fun K hK => ?_ | with_reducible refine parEVC_stepG rfl (by with_unfolding_all rfl) fun K hK => ?_ | with_reducible refine genVC_stepN rfl fun K hK => ?_ | with_reducible refine genVC_stepG rfl (by with_unfolding_all rfl) fun K hK => ?_); (try simp only [go_sem, Nat.reduceBEq, Nat.reduceBNe, Nat.reduceAdd, Nat.reduceSub, Nat.reduceMul, Nat.reduceLeDiff, Nat.reduceLT, reduceCtorEq, Nat.reduceEqDiff, Int.reduceToNat, Int.reduceLE, Int.reduceLT, Int.reduceEq, f0, f9, f10, f8, f1, f2, f3, f4, f5, f6, f7, n1, n2, n3', n4', encDat_eq x, encDat_eq y, BEq.rfl]); all_goals fail_if_success guard_target =ₛ False)
      | with_reducible refine parVC_nil ?_
      | with_reducible refine parEVC_nil ?_
      | with_reducible refine genVC_nil ?_
      | (with_reducible refine AWP.cond (by with_unfolding_all rfl) (fun h => ?_) (fun h => ?_); all_goals (try simp only [Bool.not_eq_true', Bool.not_eq_false'] at h); (all_goals try first | (exact absurd h Bool.false_ne_true) | (exact absurd h.symm Bool.false_ne_true) | (exact absurd h (by decide))))
      | with_reducible refine AWP.skip ?_
      | with_reducible refine AWP.ret ?_
      | with_reducible refine AWP.block ?_
      | with_reducible refine AWP.exit ?_
      | (with_reducible refine ⟨fun h => ?_, fun h => ?_⟩ <;> (try simp only [Bool.not_eq_true', Bool.not_eq_false'] at h) <;> simp only [h, go_sem, Nat.reduceBEq, Nat.reduceBNe, Nat.reduceAdd, Nat.reduceSub, Nat.reduceMul, Nat.reduceLeDiff, Nat.reduceLT, reduceCtorEq, Nat.reduceEqDiff, Int.reduceToNat, Int.reduceLE, Int.reduceLT, Int.reduceEq, f0, f9, f10, f8, f1, f2, f3, f4, f5, f6, f7, n1, n2, n3', n4', encDat_eq x, encDat_eq y, BEq.rfl])
      | ((first | (with_reducible refine ⟨_, hx, ?_⟩) | (with_reducible refine ⟨_, hy, ?_⟩) | (with_reducible refine ⟨_, whether_c _, ?_⟩)); try simp only [go_sem, Nat.reduceBEq, Nat.reduceBNe, Nat.reduceAdd, Nat.reduceSub, Nat.reduceMul, Nat.reduceLeDiff, Nat.reduceLT, reduceCtorEq, Nat.reduceEqDiff, Int.reduceToNat, Int.reduceLE, Int.reduceLT, Int.reduceEq, f0, f9, f10, f8, f1, f2, f3, f4, f5, f6, f7, n1, n2, n3', n4', encDat_eq x, encDat_eq y, BEq.rfl])
      | (with_reducible refine AWP.segP (id := 21) 8 mixed (by kernel_rfl) fun K hK => ?_; simp only [List.take_succ_cons, List.take_zero, List.drop_succ_cons, List.drop_zero])
      | (with_reducible refine AWP.segP (id := 25) 10 mixed (by kernel_rfl) fun K hK => ?_; simp only [List.take_succ_cons, List.take_zero, List.drop_succ_cons, List.drop_zero])
      | (with_reducible refine AWP.segP (id := 27) 10 mixed (by kernel_rfl) fun K hK => ?_; simp only [List.take_succ_cons, List.take_zero, List.drop_succ_cons, List.drop_zero])
      | (with_reducible refine AWP.parR mixed (by kernel_rfl) fun K hK => ?_)
      | (with_reducible refine Or.inl ?_)
      | (simp only [go_sem, Nat.reduceBEq, Nat.reduceBNe, Nat.reduceAdd, Nat.reduceSub, Nat.reduceMul, Nat.reduceLeDiff, Nat.reduceLT, reduceCtorEq, Nat.reduceEqDiff, Int.reduceToNat, Int.reduceLE, Int.reduceLT, Int.reduceEq, f0, f9, f10, f8, f1, f2, f3, f4, f5, f6, f7, n1, n2, n3', n4', encDat_eq x, encDat_eq y, BEq.rfl])
      | (clear hK K))
    all_goals (refine fin0 ?_; simp only [outR, operR2, boolR2, f0, f9, f10, f8, f1, f2, f3, f4, f5, f6, f7, n1, n2, n3, n4, Bool.not_true, Bool.not_false, Bool.and_true, Bool.and_false, Bool.or_false, Bool.or_true, Bool.false_or, Bool.true_or, Bool.true_and, Bool.false_and, cond_true, cond_false, failR, Dt] <;> (first | rfl | (rw [encDat_eq zeroDat]; rfl)))
end Go.Proofs.Ytmpfdejckbceiaa
