/- A part of the proof: lemmas about the walk of the program and about plain integers and lists. No conditions beyond those that each lemma states. -/
import Derived.Test.YtmpfdejckbceiaaOp20
set_option linter.unusedSimpArgs false
set_option linter.unusedVariables false
set_option maxRecDepth 20000
set_option maxHeartbeats 4000000
namespace Go.Proofs.Ytmpfdejckbceiaa
open Go Go.Sx

theorem base_c0 (dep : Nat) (s : Src) (hs : s.ok) (hk : nextV s 12 = 0) :
    PCB Try.prog 7 [Sp pin, I .i64 dep] [(pin, srcB s)] (Dt (madeBase 0 (nextS s 12)).1) [(pin, srcB (madeBase 0 (nextS s 12)).2)] := by
  refine PCB.of_body Try.func7 rfl (by decide) Try.ntmps7 Try.results7 rfl rfl rfl ?_ rfl rfl
  have hs1 := ok_next hs 12
  have a1 := nextV_in (nextS s 12) (n := 4) (by omega)
  have a2 := nextV_in (nextS (nextS s 12) 3) (n := 2) (by omega)
  have a3 := nextV_in (nextS (nextS (nextS s 12) 3) 2) (n := 2) (by omega)
  have hw1 : IntKind.i64.wrap (1 + nextV (nextS (nextS (nextS s 12) 3) 2) 2) = 1 + nextV (nextS (nextS (nextS s 12) 3) 2) 2 := by rw [w64 (by omega)]
  have a4 := nextV_in (nextS s 12) (n := 5) (by omega)
  have hw2 : IntKind.i64.wrap (nextV (nextS s 12) 5 - 1) = nextV (nextS s 12) 5 - 1 := by rw [w64 (by omega)]
  have hgt : decide ((6 : Int) < 0) = false := by decide
  repeat' (first
    | ((first | with_reducible refine seqVC_stepN rfl fun K hK => ?_ | with_reducible refine seqVC_stepG rfl (by with_unfolding_all rfl) fun K hK => ?_); (try simp only [go_sem, Nat.reduceBEq, Nat.reduceBNe, Nat.reduceAdd, Nat.reduceSub, Nat.reduceMul, Nat.reduceLeDiff, Nat.reduceLT, reduceCtorEq, Nat.reduceEqDiff, Int.reduceToNat, Int.reduceLE, Int.reduceLT, Int.reduceEq, pin, hk, hgt, hw1, hw2]); all_goals fail_if_success guard_target =ₛ False)
    | with_reducible refine seqVC_nil ?_
    | (with_reducible refine hK _ _ _ ?_; clear hK K)
    | (with_reducible refine hK _ _ ?_; clear hK K)
    | (with_reducible refine hK _ ?_; clear hK K)
    | with_reducible refine AWP.seq fun K hK => ?_
    | (with_reducible refine AWP.seqR (by kernel_rfl) fun K hK => ?_)
    | ((first | with_reducible refine parVC_stepN rfl fun K hK => ?_ | with_reducible refine parVC_stepG rfl (by with_unfolding_all rfl) fun K hK => ?_ | with_reducible refine parEVC_stepN rfl fun K hK => ?_ | with_reducible refine parEVC_stepG rfl (by with_unfolding_all rfl) fun K hK => ?_ | with_reducible refine genVC_stepN rfl fun K hK => ?_ | with_reducible refine genVC_stepG rfl (by with_unfolding_all rfl) fun K hK => ?_); (try simp only [go_sem, Nat.reduceBEq, Nat.reduceBNe, Nat.reduceAdd, Nat.reduceSub, Nat.reduceMul, Nat.reduceLeDiff, Nat.reduceLT, reduceCtorEq, Nat.reduceEqDiff, Int.reduceToNat, Int.reduceLE, Int.reduceLT, Int.reduceEq, pin, hk, hgt, hw1, hw2]); all_goals fail_if_success guard_target =ₛ False)
    | with_reducible refine parVC_nil ?_
    | with_reducible refine parEVC_nil ?_
    | with_reducible refine genVC_nil ?_
    | (with_reducible refine AWP.cond (by with_unfolding_all rfl) (fun h => ?_) (fun h => ?_); all_goals (try simp only [Bool.not_eq_true', Bool.not_eq_false'] at h); (all_goals try first | (exact absurd h Bool.false_ne_true) | (exact absurd h.symm Bool.false_ne_true) | (exact absurd h (by decide))))
    | with_reducible refine AWP.skip ?_
    | with_reducible refine AWP.ret ?_
    | with_reducible refine AWP.block ?_
    | with_reducible refine AWP.exit ?_
    | (with_reducible refine ⟨fun h => ?_, fun h => ?_⟩ <;> (try simp only [Bool.not_eq_true', Bool.not_eq_false'] at h) <;> simp only [h, go_sem, Nat.reduceBEq, Nat.reduceBNe, Nat.reduceAdd, Nat.reduceSub, Nat.reduceMul, Nat.reduceLeDiff, Nat.reduceLT, reduceCtorEq, Nat.reduceEqDiff, Int.reduceToNat, Int.reduceLE, Int.reduceLT, Int.reduceEq, pin, hk, hgt, hw1, hw2])
    | ((first | (refine ⟨1000000, _, _, _, next_k 1000000 _ (by repeat (first | with_reducible exact hs | with_reducible refine ok_next ?_ _)) _ (by omega), rfl, ?_⟩) | (refine ⟨1000000, _, _, _, word_k 1000000 _ hs1, rfl, ?_⟩) | (refine ⟨1000000, _, _, _, number_k 1000000 _ hs1, rfl, ?_⟩)); try simp only [go_sem, Nat.reduceBEq, Nat.reduceBNe, Nat.reduceAdd, Nat.reduceSub, Nat.reduceMul, Nat.reduceLeDiff, Nat.reduceLT, reduceCtorEq, Nat.reduceEqDiff, Int.reduceToNat, Int.reduceLE, Int.reduceLT, Int.reduceEq, pin, hk, hgt, hw1, hw2])
    | (with_reducible refine AWP.genR (id := 14) [1,4,8,11,13] [1000000, 4] mixed (by kernel_rfl) fun K hK => ?_; simp only [Bx.outs, Bx.drop, cond_true, cond_false, Nat.reduceBEq, go_sem])
    | (with_reducible refine AWP.segP (id := 25) 8 mixed (by kernel_rfl) fun K hK => ?_; simp only [List.take_succ_cons, List.take_zero, List.drop_succ_cons, List.drop_zero])
    | (with_reducible refine AWP.segP (id := 40) 7 mixed (by kernel_rfl) fun K hK => ?_; simp only [List.take_succ_cons, List.take_zero, List.drop_succ_cons, List.drop_zero])
    | (with_reducible refine AWP.segP (id := 47) 11 mixed (by kernel_rfl) fun K hK => ?_; simp only [List.take_succ_cons, List.take_zero, List.drop_succ_cons, List.drop_zero])
    | (with_reducible refine AWP.parR mixed (by kernel_rfl) fun K hK => ?_)
    | (with_reducible refine Or.inl ?_)
    | (simp only [go_sem, Nat.reduceBEq, Nat.reduceBNe, Nat.reduceAdd, Nat.reduceSub, Nat.reduceMul, Nat.reduceLeDiff, Nat.reduceLT, reduceCtorEq, Nat.reduceEqDiff, Int.reduceToNat, Int.reduceLE, Int.reduceLT, Int.reduceEq, pin, hk, hgt, hw1, hw2])
    | (clear hK K))
  all_goals (refine ⟨by simp only [madeBase, cond_true, cond_false, decide_true, decide_false, Int.reduceEq, Dt, encDat_eq, atomDat, intDat, funDat, zeroDat]; rfl, fun x hx => ?_⟩)
  all_goals (simp only [List.mem_singleton] at hx; subst hx; simp [madeBase, pin])
theorem base_c1 (dep : Nat) (s : Src) (hs : s.ok) (hk : nextV s 12 = 1) :
    PCB Try.prog 7 [Sp pin, I .i64 dep] [(pin, srcB s)] (Dt (madeBase 1 (nextS s 12)).1) [(pin, srcB (madeBase 1 (nextS s 12)).2)] := by
  refine PCB.of_body Try.func7 rfl (by decide) Try.ntmps7 Try.results7 rfl rfl rfl ?_ rfl rfl
  have hs1 := ok_next hs 12
  have a1 := nextV_in (nextS s 12) (n := 4) (by omega)
  have a2 := nextV_in (nextS (nextS s 12) 3) (n := 2) (by omega)
  have a3 := nextV_in (nextS (nextS (nextS s 12) 3) 2) (n := 2) (by omega)
  have hw1 : IntKind.i64.wrap (1 + nextV (nextS (nextS (nextS s 12) 3) 2) 2) = 1 + nextV (nextS (nextS (nextS s 12) 3) 2) 2 := by rw [w64 (by omega)]
  have a4 := nextV_in (nextS s 12) (n := 5) (by omega)
  have hw2 : IntKind.i64.wrap (nextV (nextS s 12) 5 - 1) = nextV (nextS s 12) 5 - 1 := by rw [w64 (by omega)]
  have hgt : decide ((6 : Int) < 1) = false := by decide
  repeat' (first
    | ((first | with_reducible refine seqVC_stepN rfl fun K hK => ?_ | with_reducible refine seqVC_stepG rfl (by with_unfolding_all rfl) fun K hK => ?_); (try simp only [go_sem, Nat.reduceBEq, Nat.reduceBNe, Nat.reduceAdd, Nat.reduceSub, Nat.reduceMul, Nat.reduceLeDiff, Nat.reduceLT, reduceCtorEq, Nat.reduceEqDiff, Int.reduceToNat, Int.reduceLE, Int.reduceLT, Int.reduceEq, pin, hk, hgt, hw1, hw2]); all_goals fail_if_success guard_target =ₛ False)
    | with_reducible refine seqVC_nil ?_
    | (with_reducible refine hK _ _ _ ?_; clear hK K)
    | (with_reducible refine hK _ _ ?_; clear hK K)
    | (with_reducible refine hK _ ?_; clear hK K)
    | with_reducible refine AWP.seq fun K hK => ?_
    | (with_reducible refine AWP.seqR (by kernel_rfl) fun K hK => ?_)
    | ((first | with_reducible refine parVC_stepN rfl fun K hK => ?_ | with_reducible refine parVC_stepG rfl (by with_unfolding_all rfl) fun K hK => ?_ | with_reducible refine parEVC_stepN rfl fun K hK => ?_ | with_reducible refine parEVC_stepG rfl (by with_unfolding_all rfl) fun K hK => ?_ | with_reducible refine genVC_stepN rfl fun K hK => ?_ | with_reducible refine genVC_stepG rfl (by with_unfolding_all rfl) fun K hK => ?_); (try simp only [go_sem, Nat.reduceBEq, Nat.reduceBNe, Nat.reduceAdd, Nat.reduceSub, Nat.reduceMul, Nat.reduceLeDiff, Nat.reduceLT, reduceCtorEq, Nat.reduceEqDiff, Int.reduceToNat, Int.reduceLE, Int.reduceLT, Int.reduceEq, pin, hk, hgt, hw1, hw2]); all_goals fail_if_success guard_target =ₛ False)
    | with_reducible refine parVC_nil ?_
    | with_reducible refine parEVC_nil ?_
    | with_reducible refine genVC_nil ?_
    | (with_reducible refine AWP.cond (by with_unfolding_all rfl) (fun h => ?_) (fun h => ?_); all_goals (try simp only [Bool.not_eq_true', Bool.not_eq_false'] at h); (all_goals try first | (exact absurd h Bool.false_ne_true) | (exact absurd h.symm Bool.false_ne_true) | (exact absurd h (by decide))))
    | with_reducible refine AWP.skip ?_
    | with_reducible refine AWP.ret ?_
    | with_reducible refine AWP.block ?_
    | with_reducible refine AWP.exit ?_
    | (with_reducible refine ⟨fun h => ?_, fun h => ?_⟩ <;> (try simp only [Bool.not_eq_true', Bool.not_eq_false'] at h) <;> simp only [h, go_sem, Nat.reduceBEq, Nat.reduceBNe, Nat.reduceAdd, Nat.reduceSub, Nat.reduceMul, Nat.reduceLeDiff, Nat.reduceLT, reduceCtorEq, Nat.reduceEqDiff, Int.reduceToNat, Int.reduceLE, Int.reduceLT, Int.reduceEq, pin, hk, hgt, hw1, hw2])
    | ((first | (refine ⟨1000000, _, _, _, next_k 1000000 _ (by repeat (first | with_reducible exact hs | with_reducible refine ok_next ?_ _)) _ (by omega), rfl, ?_⟩) | (refine ⟨1000000, _, _, _, word_k 1000000 _ hs1, rfl, ?_⟩) | (refine ⟨1000000, _, _, _, number_k 1000000 _ hs1, rfl, ?_⟩)); try simp only [go_sem, Nat.reduceBEq, Nat.reduceBNe, Nat.reduceAdd, Nat.reduceSub, Nat.reduceMul, Nat.reduceLeDiff, Nat.reduceLT, reduceCtorEq, Nat.reduceEqDiff, Int.reduceToNat, Int.reduceLE, Int.reduceLT, Int.reduceEq, pin, hk, hgt, hw1, hw2])
    | ( refine ⟨a1.1, [.str (atoms4.getD (nextV (nextS s 12) 4).toNat [])], lit_get (fun x => [C.str x]) atoms4 [] a1, ?_⟩)
    | (with_reducible refine AWP.genR (id := 14) [1,4,8,11,13] [1000000, 4] mixed (by kernel_rfl) fun K hK => ?_; simp only [Bx.outs, Bx.drop, cond_true, cond_false, Nat.reduceBEq, go_sem])
    | (with_reducible refine AWP.segP (id := 25) 8 mixed (by kernel_rfl) fun K hK => ?_; simp only [List.take_succ_cons, List.take_zero, List.drop_succ_cons, List.drop_zero])
    | (with_reducible refine AWP.segP (id := 40) 7 mixed (by kernel_rfl) fun K hK => ?_; simp only [List.take_succ_cons, List.take_zero, List.drop_succ_cons, List.drop_zero])
    | (with_reducible refine AWP.segP (id := 47) 11 mixed (by kernel_rfl) fun K hK => ?_; simp only [List.take_succ_cons, List.take_zero, List.drop_succ_cons, List.drop_zero])
    | (with_reducible refine AWP.parR mixed (by kernel_rfl) fun K hK => ?_)
    | (with_reducible refine Or.inl ?_)
    | (simp only [go_sem, Nat.reduceBEq, Nat.reduceBNe, Nat.reduceAdd, Nat.reduceSub, Nat.reduceMul, Nat.reduceLeDiff, Nat.reduceLT, reduceCtorEq, Nat.reduceEqDiff, Int.reduceToNat, Int.reduceLE, Int.reduceLT, Int.reduceEq, pin, hk, hgt, hw1, hw2])
    | (clear hK K))
  all_goals (refine ⟨by simp only [madeBase, cond_true, cond_false, decide_true, decide_false, Int.reduceEq, Dt, encDat_eq, atomDat, intDat, funDat, zeroDat]; rfl, fun x hx => ?_⟩)
  all_goals (simp only [List.mem_singleton] at hx; subst hx; simp [madeBase, pin])
theorem base_c2 (dep : Nat) (s : Src) (hs : s.ok) (hk : nextV s 12 = 2) :
    PCB Try.prog 7 [Sp pin, I .i64 dep] [(pin, srcB s)] (Dt (madeBase 2 (nextS s 12)).1) [(pin, srcB (madeBase 2 (nextS s 12)).2)] := by
  refine PCB.of_body Try.func7 rfl (by decide) Try.ntmps7 Try.results7 rfl rfl rfl ?_ rfl rfl
  have hs1 := ok_next hs 12
  have a1 := nextV_in (nextS s 12) (n := 4) (by omega)
  have a2 := nextV_in (nextS (nextS s 12) 3) (n := 2) (by omega)
  have a3 := nextV_in (nextS (nextS (nextS s 12) 3) 2) (n := 2) (by omega)
  have hw1 : IntKind.i64.wrap (1 + nextV (nextS (nextS (nextS s 12) 3) 2) 2) = 1 + nextV (nextS (nextS (nextS s 12) 3) 2) 2 := by rw [w64 (by omega)]
  have a4 := nextV_in (nextS s 12) (n := 5) (by omega)
  have hw2 : IntKind.i64.wrap (nextV (nextS s 12) 5 - 1) = nextV (nextS s 12) 5 - 1 := by rw [w64 (by omega)]
  have hgt : decide ((6 : Int) < 2) = false := by decide
  repeat' (first
    | ((first | with_reducible refine seqVC_stepN rfl fun K hK => ?_ | with_reducible refine seqVC_stepG rfl (by with_unfolding_all rfl) fun K hK => ?_); (try simp only [go_sem, Nat.reduceBEq, Nat.reduceBNe, Nat.reduceAdd, Nat.reduceSub, Nat.reduceMul, Nat.reduceLeDiff, Nat.reduceLT, reduceCtorEq, Nat.reduceEqDiff, Int.reduceToNat, Int.reduceLE, Int.reduceLT, Int.reduceEq, pin, hk, hgt, hw1, hw2]); all_goals fail_if_success guard_target =ₛ False)
    | with_reducible refine seqVC_nil ?_
    | (with_reducible refine hK _ _ _ ?_; clear hK K)
    | (with_reducible refine hK _ _ ?_; clear hK K)
    | (with_reducible refine hK _ ?_; clear hK K)
    | with_reducible refine AWP.seq fun K hK => ?_
    | (with_reducible refine AWP.seqR (by kernel_rfl) fun K hK => ?_)
    | ((first | with_reducible refine parVC_stepN rfl fun K hK => ?_ | with_reducible refine parVC_stepG rfl (by with_unfolding_all rfl) fun K hK => ?_ | with_reducible refine parEVC_stepN rfl fun K hK => ?_ | with_reducible refine parEVC_stepG rfl (by with_unfolding_all rfl) fun K hK => ?_ | with_reducible refine genVC_stepN rfl fun K hK => ?_ | with_reducible refine genVC_stepG rfl (by with_unfolding_all rfl) fun K hK => ?_); (try simp only [go_sem, Nat.reduceBEq, Nat.reduceBNe, Nat.reduceAdd, Nat.reduceSub, Nat.reduceMul, Nat.reduceLeDiff, Nat.reduceLT, reduceCtorEq, Nat.reduceEqDiff, Int.reduceToNat, Int.reduceLE, Int.reduceLT, Int.reduceEq, pin, hk, hgt, hw1, hw2]); all_goals fail_if_success guard_target =ₛ False)
    | with_reducible refine parVC_nil ?_
    | with_reducible refine parEVC_nil ?_
    | with_reducible refine genVC_nil ?_
    | (with_reducible refine AWP.cond (by with_unfolding_all rfl) (fun h => ?_) (fun h => ?_); all_goals (try simp only [Bool.not_eq_true', Bool.not_eq_false'] at h); (all_goals try first | (exact absurd h Bool.false_ne_true) | (exact absurd h.symm Bool.false_ne_true) | (exact absurd h (by decide))))
    | with_reducible refine AWP.skip ?_
    | with_reducible refine AWP.ret ?_
    | with_reducible refine AWP.block ?_
    | with_reducible refine AWP.exit ?_
    | (with_reducible refine ⟨fun h => ?_, fun h => ?_⟩ <;> (try simp only [Bool.not_eq_true', Bool.not_eq_false'] at h) <;> simp only [h, go_sem, Nat.reduceBEq, Nat.reduceBNe, Nat.reduceAdd, Nat.reduceSub, Nat.reduceMul, Nat.reduceLeDiff, Nat.reduceLT, reduceCtorEq, Nat.reduceEqDiff, Int.reduceToNat, Int.reduceLE, Int.reduceLT, Int.reduceEq, pin, hk, hgt, hw1, hw2])
    | ((first | (refine ⟨1000000, _, _, _, next_k 1000000 _ (by repeat (first | with_reducible exact hs | with_reducible refine ok_next ?_ _)) _ (by omega), rfl, ?_⟩) | (refine ⟨1000000, _, _, _, word_k 1000000 _ hs1, rfl, ?_⟩) | (refine ⟨1000000, _, _, _, number_k 1000000 _ hs1, rfl, ?_⟩)); try simp only [go_sem, Nat.reduceBEq, Nat.reduceBNe, Nat.reduceAdd, Nat.reduceSub, Nat.reduceMul, Nat.reduceLeDiff, Nat.reduceLT, reduceCtorEq, Nat.reduceEqDiff, Int.reduceToNat, Int.reduceLE, Int.reduceLT, Int.reduceEq, pin, hk, hgt, hw1, hw2])
    | (with_reducible refine AWP.genR (id := 14) [1,4,8,11,13] [1000000, 4] mixed (by kernel_rfl) fun K hK => ?_; simp only [Bx.outs, Bx.drop, cond_true, cond_false, Nat.reduceBEq, go_sem])
    | (with_reducible refine AWP.segP (id := 25) 8 mixed (by kernel_rfl) fun K hK => ?_; simp only [List.take_succ_cons, List.take_zero, List.drop_succ_cons, List.drop_zero])
    | (with_reducible refine AWP.segP (id := 40) 7 mixed (by kernel_rfl) fun K hK => ?_; simp only [List.take_succ_cons, List.take_zero, List.drop_succ_cons, List.drop_zero])
    | (with_reducible refine AWP.segP (id := 47) 11 mixed (by kernel_rfl) fun K hK => ?_; simp only [List.take_succ_cons, List.take_zero, List.drop_succ_cons, List.drop_zero])
    | (with_reducible refine AWP.parR mixed (by kernel_rfl) fun K hK => ?_)
    | (with_reducible refine Or.inl ?_)
    | (simp only [go_sem, Nat.reduceBEq, Nat.reduceBNe, Nat.reduceAdd, Nat.reduceSub, Nat.reduceMul, Nat.reduceLeDiff, Nat.reduceLT, reduceCtorEq, Nat.reduceEqDiff, Int.reduceToNat, Int.reduceLE, Int.reduceLT, Int.reduceEq, pin, hk, hgt, hw1, hw2])
    | (clear hK K))
  all_goals (refine ⟨by simp only [madeBase, cond_true, cond_false, decide_true, decide_false, Int.reduceEq, Dt, encDat_eq, atomDat, intDat, funDat, zeroDat]; rfl, fun x hx => ?_⟩)
  all_goals (simp only [List.mem_singleton] at hx; subst hx; simp [madeBase, pin])
end Go.Proofs.Ytmpfdejckbceiaa
set_option linter.unusedSimpArgs false
set_option linter.unusedVariables false
set_option maxRecDepth 20000
set_option maxHeartbeats 4000000
namespace Go.Proofs.Ytmpfdejckbceiaa
open Go Go.Sx

theorem base_c3 (dep : Nat) (s : Src) (hs : s.ok) (hk : nextV s 12 = 3) :
    PCB Try.prog 7 [Sp pin, I .i64 dep] [(pin, srcB s)] (Dt (madeBase 3 (nextS s 12)).1) [(pin, srcB (madeBase 3 (nextS s 12)).2)] := by
  refine PCB.of_body Try.func7 rfl (by decide) Try.ntmps7 Try.results7 rfl rfl rfl ?_ rfl rfl
  have hs1 := ok_next hs 12
  have a1 := nextV_in (nextS s 12) (n := 4) (by omega)
  have a2 := nextV_in (nextS (nextS s 12) 3) (n := 2) (by omega)
  have a3 := nextV_in (nextS (nextS (nextS s 12) 3) 2) (n := 2) (by omega)
  have hw1 : IntKind.i64.wrap (1 + nextV (nextS (nextS (nextS s 12) 3) 2) 2) = 1 + nextV (nextS (nextS (nextS s 12) 3) 2) 2 := by rw [w64 (by omega)]
  have a4 := nextV_in (nextS s 12) (n := 5) (by omega)
  have hw2 : IntKind.i64.wrap (nextV (nextS s 12) 5 - 1) = nextV (nextS s 12) 5 - 1 := by rw [w64 (by omega)]
  have hgt : decide ((6 : Int) < 3) = false := by decide
  repeat' (first
    | ((first | with_reducible refine seqVC_stepN rfl fun K hK => ?_ | with_reducible refine seqVC_stepG rfl (by with_unfolding_all rfl) fun K hK => ?_); (try simp only [go_sem, Nat.reduceBEq, Nat.reduceBNe, Nat.reduceAdd, Nat.reduceSub, Nat.reduceMul, Nat.reduceLeDiff, Nat.reduceLT, reduceCtorEq, Nat.reduceEqDiff, Int.reduceToNat, Int.reduceLE, Int.reduceLT, Int.reduceEq, pin, hk, hgt, hw1, hw2]); all_goals fail_if_success guard_target =ₛ False)
    | with_reducible refine seqVC_nil ?_
    | (with_reducible refine hK _ _ _ ?_; clear hK K)
    | (with_reducible refine hK _ _ ?_; clear hK K)
    | (with_reducible refine hK _ ?_; clear hK K)
    | with_reducible refine AWP.seq fun K hK => ?_
    | (with_reducible refine AWP.seqR (by kernel_rfl) fun K hK => ?_)
    | ((first | with_reducible refine parVC_stepN rfl fun K hK => ?_ | with_reducible refine parVC_stepG rfl (by with_unfolding_all rfl) fun K hK => ?_ | with_reducible refine parEVC_stepN rfl fun K hK => ?_ | with_reducible refine parEVC_stepG rfl (by with_unfolding_all rfl) fun K hK => ?_ | with_reducible refine genVC_stepN rfl fun K hK => ?_ | with_reducible refine genVC_stepG rfl (by with_unfolding_all rfl) fun K hK => ?_); (try simp only [go_sem, Nat.reduceBEq, Nat.reduceBNe, Nat.reduceAdd, Nat.reduceSub, Nat.reduceMul, Nat.reduceLeDiff, Nat.reduceLT, reduceCtorEq, Nat.reduceEqDiff, Int.reduceToNat, Int.reduceLE, Int.reduceLT, Int.reduceEq, pin, hk, hgt, hw1, hw2]); all_goals fail_if_success guard_target =ₛ False)
    | with_reducible refine parVC_nil ?_
    | with_reducible refine parEVC_nil ?_
    | with_reducible refine genVC_nil ?_
    | (with_reducible refine AWP.cond (by with_unfolding_all rfl) (fun h => ?_) (fun h => ?_); all_goals (try simp only [Bool.not_eq_true', Bool.not_eq_false'] at h); (all_goals try first | (exact absurd h Bool.false_ne_true) | (exact absurd h.symm Bool.false_ne_true) | (exact absurd h (by decide))))
    | with_reducible refine AWP.skip ?_
    | with_reducible refine AWP.ret ?_
    | with_reducible refine AWP.block ?_
    | with_reducible refine AWP.exit ?_
    | (with_reducible refine ⟨fun h => ?_, fun h => ?_⟩ <;> (try simp only [Bool.not_eq_true', Bool.not_eq_false'] at h) <;> simp only [h, go_sem, Nat.reduceBEq, Nat.reduceBNe, Nat.reduceAdd, Nat.reduceSub, Nat.reduceMul, Nat.reduceLeDiff, Nat.reduceLT, reduceCtorEq, Nat.reduceEqDiff, Int.reduceToNat, Int.reduceLE, Int.reduceLT, Int.reduceEq, pin, hk, hgt, hw1, hw2])
    | ((first | (refine ⟨1000000, _, _, _, next_k 1000000 _ (by repeat (first | with_reducible exact hs | with_reducible refine ok_next ?_ _)) _ (by omega), rfl, ?_⟩) | (refine ⟨1000000, _, _, _, word_k 1000000 _ hs1, rfl, ?_⟩) | (refine ⟨1000000, _, _, _, number_k 1000000 _ hs1, rfl, ?_⟩)); try simp only [go_sem, Nat.reduceBEq, Nat.reduceBNe, Nat.reduceAdd, Nat.reduceSub, Nat.reduceMul, Nat.reduceLeDiff, Nat.reduceLT, reduceCtorEq, Nat.reduceEqDiff, Int.reduceToNat, Int.reduceLE, Int.reduceLT, Int.reduceEq, pin, hk, hgt, hw1, hw2])
    | (with_reducible refine AWP.genR (id := 14) [1,4,8,11,13] [1000000, 4] mixed (by kernel_rfl) fun K hK => ?_; simp only [Bx.outs, Bx.drop, cond_true, cond_false, Nat.reduceBEq, go_sem])
    | (with_reducible refine AWP.segP (id := 25) 8 mixed (by kernel_rfl) fun K hK => ?_; simp only [List.take_succ_cons, List.take_zero, List.drop_succ_cons, List.drop_zero])
    | (with_reducible refine AWP.segP (id := 40) 7 mixed (by kernel_rfl) fun K hK => ?_; simp only [List.take_succ_cons, List.take_zero, List.drop_succ_cons, List.drop_zero])
    | (with_reducible refine AWP.segP (id := 47) 11 mixed (by kernel_rfl) fun K hK => ?_; simp only [List.take_succ_cons, List.take_zero, List.drop_succ_cons, List.drop_zero])
    | (with_reducible refine AWP.parR mixed (by kernel_rfl) fun K hK => ?_)
    | (with_reducible refine Or.inl ?_)
    | (simp only [go_sem, Nat.reduceBEq, Nat.reduceBNe, Nat.reduceAdd, Nat.reduceSub, Nat.reduceMul, Nat.reduceLeDiff, Nat.reduceLT, reduceCtorEq, Nat.reduceEqDiff, Int.reduceToNat, Int.reduceLE, Int.reduceLT, Int.reduceEq, pin, hk, hgt, hw1, hw2])
    | (clear hK K))
  all_goals (refine ⟨by simp only [madeBase, cond_true, cond_false, decide_true, decide_false, Int.reduceEq, Dt, encDat_eq, atomDat, intDat, funDat, zeroDat]; rfl, fun x hx => ?_⟩)
  all_goals (simp only [List.mem_singleton] at hx; subst hx; simp [madeBase, pin])
theorem base_c4 (dep : Nat) (s : Src) (hs : s.ok) (hk : nextV s 12 = 4) :
    PCB Try.prog 7 [Sp pin, I .i64 dep] [(pin, srcB s)] (Dt (madeBase 4 (nextS s 12)).1) [(pin, srcB (madeBase 4 (nextS s 12)).2)] := by
  refine PCB.of_body Try.func7 rfl (by decide) Try.ntmps7 Try.results7 rfl rfl rfl ?_ rfl rfl
  have hs1 := ok_next hs 12
  have a1 := nextV_in (nextS s 12) (n := 4) (by omega)
  have a2 := nextV_in (nextS (nextS s 12) 3) (n := 2) (by omega)
  have a3 := nextV_in (nextS (nextS (nextS s 12) 3) 2) (n := 2) (by omega)
  have hw1 : IntKind.i64.wrap (1 + nextV (nextS (nextS (nextS s 12) 3) 2) 2) = 1 + nextV (nextS (nextS (nextS s 12) 3) 2) 2 := by rw [w64 (by omega)]
  have a4 := nextV_in (nextS s 12) (n := 5) (by omega)
  have hw2 : IntKind.i64.wrap (nextV (nextS s 12) 5 - 1) = nextV (nextS s 12) 5 - 1 := by rw [w64 (by omega)]
  have hgt : decide ((6 : Int) < 4) = false := by decide
  repeat' (first
    | ((first | with_reducible refine seqVC_stepN rfl fun K hK => ?_ | with_reducible refine seqVC_stepG rfl (by with_unfolding_all rfl) fun K hK => ?_); (try simp only [go_sem, Nat.reduceBEq, Nat.reduceBNe, Nat.reduceAdd, Nat.reduceSub, Nat.reduceMul, Nat.reduceLeDiff, Nat.reduceLT, reduceCtorEq, Nat.reduceEqDiff, Int.reduceToNat, Int.reduceLE, Int.reduceLT, Int.reduceEq, pin, hk, hgt, hw1, hw2]); all_goals fail_if_success guard_target =ₛ False)
    | with_reducible refine seqVC_nil ?_
    | (with_reducible refine hK _ _ _ ?_; clear hK K)
    | (with_reducible refine hK _ _ ?_; clear hK K)
    | (with_reducible refine hK _ ?_; clear hK K)
    | with_reducible refine AWP.seq fun K hK => ?_
    | (with_reducible refine AWP.seqR (by kernel_rfl) fun K hK => ?_)
    | ((first | with_reducible refine parVC_stepN rfl fun K hK => ?_ | with_reducible refine parVC_stepG rfl (by with_unfolding_all rfl) fun K hK => ?_ | with_reducible refine parEVC_stepN rfl fun K hK => ?_ | with_reducible refine parEVC_stepG rfl (by with_unfolding_all rfl) fun K hK => ?_ | with_reducible refine genVC_stepN rfl fun K hK => ?_ | with_reducible refine genVC_stepG rfl (by with_unfolding_all rfl) fun K hK => ?_); (try simp only [go_sem, Nat.reduceBEq, Nat.reduceBNe, Nat.reduceAdd, Nat.reduceSub, Nat.reduceMul, Nat.reduceLeDiff, Nat.reduceLT, reduceCtorEq, Nat.reduceEqDiff, Int.reduceToNat, Int.reduceLE, Int.reduceLT, Int.reduceEq, pin, hk, hgt, hw1, hw2]); all_goals fail_if_success guard_target =ₛ False)
    | with_reducible refine parVC_nil ?_
    | with_reducible refine parEVC_nil ?_
    | with_reducible refine genVC_nil ?_
    | (with_reducible refine AWP.cond (by with_unfolding_all rfl) (fun h => ?_) (fun h => ?_); all_goals (try simp only [Bool.not_eq_true', Bool.not_eq_false'] at h); (all_goals try first | (exact absurd h Bool.false_ne_true) | (exact absurd h.symm Bool.false_ne_true) | (exact absurd h (by decide))))
    | with_reducible refine AWP.skip ?_
    | with_reducible refine AWP.ret ?_
    | with_reducible refine AWP.block ?_
    | with_reducible refine AWP.exit ?_
    | (with_reducible refine ⟨fun h => ?_, fun h => ?_⟩ <;> (try simp only [Bool.not_eq_true', Bool.not_eq_false'] at h) <;> simp only [h, go_sem, Nat.reduceBEq, Nat.reduceBNe, Nat.reduceAdd, Nat.reduceSub, Nat.reduceMul, Nat.reduceLeDiff, Nat.reduceLT, reduceCtorEq, Nat.reduceEqDiff, Int.reduceToNat, Int.reduceLE, Int.reduceLT, Int.reduceEq, pin, hk, hgt, hw1, hw2])
    | ((first | (refine ⟨1000000, _, _, _, next_k 1000000 _ (by repeat (first | with_reducible exact hs | with_reducible refine ok_next ?_ _)) _ (by omega), rfl, ?_⟩) | (refine ⟨1000000, _, _, _, word_k 1000000 _ hs1, rfl, ?_⟩) | (refine ⟨1000000, _, _, _, number_k 1000000 _ hs1, rfl, ?_⟩)); try simp only [go_sem, Nat.reduceBEq, Nat.reduceBNe, Nat.reduceAdd, Nat.reduceSub, Nat.reduceMul, Nat.reduceLeDiff, Nat.reduceLT, reduceCtorEq, Nat.reduceEqDiff, Int.reduceToNat, Int.reduceLE, Int.reduceLT, Int.reduceEq, pin, hk, hgt, hw1, hw2])
    | (with_reducible refine AWP.genR (id := 14) [1,4,8,11,13] [1000000, 4] mixed (by kernel_rfl) fun K hK => ?_; simp only [Bx.outs, Bx.drop, cond_true, cond_false, Nat.reduceBEq, go_sem])
    | (with_reducible refine AWP.segP (id := 25) 8 mixed (by kernel_rfl) fun K hK => ?_; simp only [List.take_succ_cons, List.take_zero, List.drop_succ_cons, List.drop_zero])
    | (with_reducible refine AWP.segP (id := 40) 7 mixed (by kernel_rfl) fun K hK => ?_; simp only [List.take_succ_cons, List.take_zero, List.drop_succ_cons, List.drop_zero])
    | (with_reducible refine AWP.segP (id := 47) 11 mixed (by kernel_rfl) fun K hK => ?_; simp only [List.take_succ_cons, List.take_zero, List.drop_succ_cons, List.drop_zero])
    | (with_reducible refine AWP.parR mixed (by kernel_rfl) fun K hK => ?_)
    | (with_reducible refine Or.inl ?_)
    | (simp only [go_sem, Nat.reduceBEq, Nat.reduceBNe, Nat.reduceAdd, Nat.reduceSub, Nat.reduceMul, Nat.reduceLeDiff, Nat.reduceLT, reduceCtorEq, Nat.reduceEqDiff, Int.reduceToNat, Int.reduceLE, Int.reduceLT, Int.reduceEq, pin, hk, hgt, hw1, hw2])
    | (clear hK K))
  all_goals (refine ⟨by simp only [madeBase, cond_true, cond_false, decide_true, decide_false, Int.reduceEq, Dt, encDat_eq, atomDat, intDat, funDat, zeroDat]; rfl, fun x hx => ?_⟩)
  all_goals (simp only [List.mem_singleton] at hx; subst hx; simp [madeBase, pin])
theorem base_c5 (dep : Nat) (s : Src) (hs : s.ok) (hk : nextV s 12 = 5) :
    PCB Try.prog 7 [Sp pin, I .i64 dep] [(pin, srcB s)] (Dt (madeBase 5 (nextS s 12)).1) [(pin, srcB (madeBase 5 (nextS s 12)).2)] := by
  refine PCB.of_body Try.func7 rfl (by decide) Try.ntmps7 Try.results7 rfl rfl rfl ?_ rfl rfl
  have hs1 := ok_next hs 12
  have a1 := nextV_in (nextS s 12) (n := 4) (by omega)
  have a2 := nextV_in (nextS (nextS s 12) 3) (n := 2) (by omega)
  have a3 := nextV_in (nextS (nextS (nextS s 12) 3) 2) (n := 2) (by omega)
  have hw1 : IntKind.i64.wrap (1 + nextV (nextS (nextS (nextS s 12) 3) 2) 2) = 1 + nextV (nextS (nextS (nextS s 12) 3) 2) 2 := by rw [w64 (by omega)]
  have a4 := nextV_in (nextS s 12) (n := 5) (by omega)
  have hw2 : IntKind.i64.wrap (nextV (nextS s 12) 5 - 1) = nextV (nextS s 12) 5 - 1 := by rw [w64 (by omega)]
  have hgt : decide ((6 : Int) < 5) = false := by decide
  repeat' (first
    | ((first | with_reducible refine seqVC_stepN rfl fun K hK => ?_ | with_reducible refine seqVC_stepG rfl (by with_unfolding_all rfl) fun K hK => ?_); (try simp only [go_sem, Nat.reduceBEq, Nat.reduceBNe, Nat.reduceAdd, Nat.reduceSub, Nat.reduceMul, Nat.reduceLeDiff, Nat.reduceLT, reduceCtorEq, Nat.reduceEqDiff, Int.reduceToNat, Int.reduceLE, Int.reduceLT, Int.reduceEq, pin, hk, hgt, hw1, hw2]); all_goals fail_if_success guard_target =ₛ False)
    | with_reducible refine seqVC_nil ?_
    | (with_reducible refine hK _ _ _ ?_; clear hK K)
    | (with_reducible refine hK _ _ ?_; clear hK K)
    | (with_reducible refine hK _ ?_; clear hK K)
    | with_reducible refine AWP.seq fun K hK => ?_
    | (with_reducible refine AWP.seqR (by kernel_rfl) fun K hK => ?_)
    | ((first | with_reducible refine parVC_stepN rfl fun K hK => ?_ | with_reducible refine parVC_stepG rfl (by with_unfolding_all rfl) fun K hK => ?_ | with_reducible refine parEVC_stepN rfl fun K hK => ?_ | with_reducible refine parEVC_stepG rfl (by with_unfolding_all rfl) fun K hK => ?_ | with_reducible refine genVC_stepN rfl fun K hK => ?_ | with_reducible refine genVC_stepG rfl (by with_unfolding_all rfl) fun K hK => ?_); (try simp only [go_sem, Nat.reduceBEq, Nat.reduceBNe, Nat.reduceAdd, Nat.reduceSub, Nat.reduceMul, Nat.reduceLeDiff, Nat.reduceLT, reduceCtorEq, Nat.reduceEqDiff, Int.reduceToNat, Int.reduceLE, Int.reduceLT, Int.reduceEq, pin, hk, hgt, hw1, hw2]); all_goals fail_if_success guard_target =ₛ False)
    | with_reducible refine parVC_nil ?_
    | with_reducible refine parEVC_nil ?_
    | with_reducible refine genVC_nil ?_
    | (with_reducible refine AWP.cond (by with_unfolding_all rfl) (fun h => ?_) (fun h => ?_); all_goals (try simp only [Bool.not_eq_true', Bool.not_eq_false'] at h); (all_goals try first | (exact absurd h Bool.false_ne_true) | (exact absurd h.symm Bool.false_ne_true) | (exact absurd h (by decide))))
    | with_reducible refine AWP.skip ?_
    | with_reducible refine AWP.ret ?_
    | with_reducible refine AWP.block ?_
    | with_reducible refine AWP.exit ?_
    | (with_reducible refine ⟨fun h => ?_, fun h => ?_⟩ <;> (try simp only [Bool.not_eq_true', Bool.not_eq_false'] at h) <;> simp only [h, go_sem, Nat.reduceBEq, Nat.reduceBNe, Nat.reduceAdd, Nat.reduceSub, Nat.reduceMul, Nat.reduceLeDiff, Nat.reduceLT, reduceCtorEq, Nat.reduceEqDiff, Int.reduceToNat, Int.reduceLE, Int.reduceLT, Int.reduceEq, pin, hk, hgt, hw1, hw2])
    | ((first | (refine ⟨1000000, _, _, _, next_k 1000000 _ (by repeat (first | with_reducible exact hs | with_reducible refine ok_next ?_ _)) _ (by omega), rfl, ?_⟩) | (refine ⟨1000000, _, _, _, word_k 1000000 _ hs1, rfl, ?_⟩) | (refine ⟨1000000, _, _, _, number_k 1000000 _ hs1, rfl, ?_⟩)); try simp only [go_sem, Nat.reduceBEq, Nat.reduceBNe, Nat.reduceAdd, Nat.reduceSub, Nat.reduceMul, Nat.reduceLeDiff, Nat.reduceLT, reduceCtorEq, Nat.reduceEqDiff, Int.reduceToNat, Int.reduceLE, Int.reduceLT, Int.reduceEq, pin, hk, hgt, hw1, hw2])
    | ( refine ⟨a2.1, [.str (mods2.getD (nextV (nextS (nextS s 12) 3) 2).toNat [])], lit_get (fun x => [C.str x]) mods2 [] a2, ?_⟩)
    | (with_reducible refine AWP.genR (id := 14) [1,4,8,11,13] [1000000, 4] mixed (by kernel_rfl) fun K hK => ?_; simp only [Bx.outs, Bx.drop, cond_true, cond_false, Nat.reduceBEq, go_sem])
    | (with_reducible refine AWP.segP (id := 25) 8 mixed (by kernel_rfl) fun K hK => ?_; simp only [List.take_succ_cons, List.take_zero, List.drop_succ_cons, List.drop_zero])
    | (with_reducible refine AWP.segP (id := 40) 7 mixed (by kernel_rfl) fun K hK => ?_; simp only [List.take_succ_cons, List.take_zero, List.drop_succ_cons, List.drop_zero])
    | (with_reducible refine AWP.segP (id := 47) 11 mixed (by kernel_rfl) fun K hK => ?_; simp only [List.take_succ_cons, List.take_zero, List.drop_succ_cons, List.drop_zero])
    | (with_reducible refine AWP.parR mixed (by kernel_rfl) fun K hK => ?_)
    | (with_reducible refine Or.inl ?_)
    | (simp only [go_sem, Nat.reduceBEq, Nat.reduceBNe, Nat.reduceAdd, Nat.reduceSub, Nat.reduceMul, Nat.reduceLeDiff, Nat.reduceLT, reduceCtorEq, Nat.reduceEqDiff, Int.reduceToNat, Int.reduceLE, Int.reduceLT, Int.reduceEq, pin, hk, hgt, hw1, hw2])
    | (clear hK K))
  all_goals (refine ⟨by simp only [madeBase, cond_true, cond_false, decide_true, decide_false, Int.reduceEq, Dt, encDat_eq, atomDat, intDat, funDat, zeroDat]; rfl, fun x hx => ?_⟩)
  all_goals (simp only [List.mem_singleton] at hx; subst hx; simp [madeBase, pin])
theorem base_c6 (dep : Nat) (s : Src) (hs : s.ok) (hk : nextV s 12 = 6) :
    PCB Try.prog 7 [Sp pin, I .i64 dep] [(pin, srcB s)] (Dt (madeBase 6 (nextS s 12)).1) [(pin, srcB (madeBase 6 (nextS s 12)).2)] := by
  refine PCB.of_body Try.func7 rfl (by decide) Try.ntmps7 Try.results7 rfl rfl rfl ?_ rfl rfl
  have hs1 := ok_next hs 12
  have a1 := nextV_in (nextS s 12) (n := 4) (by omega)
  have a2 := nextV_in (nextS (nextS s 12) 3) (n := 2) (by omega)
  have a3 := nextV_in (nextS (nextS (nextS s 12) 3) 2) (n := 2) (by omega)
  have hw1 : IntKind.i64.wrap (1 + nextV (nextS (nextS (nextS s 12) 3) 2) 2) = 1 + nextV (nextS (nextS (nextS s 12) 3) 2) 2 := by rw [w64 (by omega)]
  have a4 := nextV_in (nextS s 12) (n := 5) (by omega)
  have hw2 : IntKind.i64.wrap (nextV (nextS s 12) 5 - 1) = nextV (nextS s 12) 5 - 1 := by rw [w64 (by omega)]
  have hgt : decide ((6 : Int) < 6) = false := by decide
  repeat' (first
    | ((first | with_reducible refine seqVC_stepN rfl fun K hK => ?_ | with_reducible refine seqVC_stepG rfl (by with_unfolding_all rfl) fun K hK => ?_); (try simp only [go_sem, Nat.reduceBEq, Nat.reduceBNe, Nat.reduceAdd, Nat.reduceSub, Nat.reduceMul, Nat.reduceLeDiff, Nat.reduceLT, reduceCtorEq, Nat.reduceEqDiff, Int.reduceToNat, Int.reduceLE, Int.reduceLT, Int.reduceEq, pin, hk, hgt, hw1, hw2]); all_goals fail_if_success guard_target =ₛ False)
    | with_reducible refine seqVC_nil ?_
    | (with_reducible refine hK _ _ _ ?_; clear hK K)
    | (with_reducible refine hK _ _ ?_; clear hK K)
    | (with_reducible refine hK _ ?_; clear hK K)
    | with_reducible refine AWP.seq fun K hK => ?_
    | (with_reducible refine AWP.seqR (by kernel_rfl) fun K hK => ?_)
    | ((first | with_reducible refine parVC_stepN rfl fun K hK => ?_ | with_reducible refine parVC_stepG rfl (by with_unfolding_all rfl) fun K hK => ?_ | with_reducible refine parEVC_stepN rfl fun K hK => ?_ | with_reducible refine parEVC_stepG rfl (by with_unfolding_all rfl) fun K hK => ?_ | with_reducible refine genVC_stepN rfl fun K hK => ?_ | with_reducible refine genVC_stepG rfl (by with_unfolding_all rfl) fun K hK => ?_); (try simp only [go_sem, Nat.reduceBEq, Nat.reduceBNe, Nat.reduceAdd, Nat.reduceSub, Nat.reduceMul, Nat.reduceLeDiff, Nat.reduceLT, reduceCtorEq, Nat.reduceEqDiff, Int.reduceToNat, Int.reduceLE, Int.reduceLT, Int.reduceEq, pin, hk, hgt, hw1, hw2]); all_goals fail_if_success guard_target =ₛ False)
    | with_reducible refine parVC_nil ?_
    | with_reducible refine parEVC_nil ?_
    | with_reducible refine genVC_nil ?_
    | (with_reducible refine AWP.cond (by with_unfolding_all rfl) (fun h => ?_) (fun h => ?_); all_goals (try simp only [Bool.not_eq_true', Bool.not_eq_false'] at h); (all_goals try first | (exact absurd h Bool.false_ne_true) | (exact absurd h.symm Bool.false_ne_true) | (exact absurd h (by decide))))
    | with_reducible refine AWP.skip ?_
    | with_reducible refine AWP.ret ?_
    | with_reducible refine AWP.block ?_
    | with_reducible refine AWP.exit ?_
    | (with_reducible refine ⟨fun h => ?_, fun h => ?_⟩ <;> (try simp only [Bool.not_eq_true', Bool.not_eq_false'] at h) <;> simp only [h, go_sem, Nat.reduceBEq, Nat.reduceBNe, Nat.reduceAdd, Nat.reduceSub, Nat.reduceMul, Nat.reduceLeDiff, Nat.reduceLT, reduceCtorEq, Nat.reduceEqDiff, Int.reduceToNat, Int.reduceLE, Int.reduceLT, Int.reduceEq, pin, hk, hgt, hw1, hw2])
    | ((first | (refine ⟨1000000, _, _, _, next_k 1000000 _ (by repeat (first | with_reducible exact hs | with_reducible refine ok_next ?_ _)) _ (by omega), rfl, ?_⟩) | (refine ⟨1000000, _, _, _, word_k 1000000 _ hs1, rfl, ?_⟩) | (refine ⟨1000000, _, _, _, number_k 1000000 _ hs1, rfl, ?_⟩)); try simp only [go_sem, Nat.reduceBEq, Nat.reduceBNe, Nat.reduceAdd, Nat.reduceSub, Nat.reduceMul, Nat.reduceLeDiff, Nat.reduceLT, reduceCtorEq, Nat.reduceEqDiff, Int.reduceToNat, Int.reduceLE, Int.reduceLT, Int.reduceEq, pin, hk, hgt, hw1, hw2])
    | (with_reducible refine AWP.genR (id := 14) [1,4,8,11,13] [1000000, 4] mixed (by kernel_rfl) fun K hK => ?_; simp only [Bx.outs, Bx.drop, cond_true, cond_false, Nat.reduceBEq, go_sem])
    | (with_reducible refine AWP.segP (id := 25) 8 mixed (by kernel_rfl) fun K hK => ?_; simp only [List.take_succ_cons, List.take_zero, List.drop_succ_cons, List.drop_zero])
    | (with_reducible refine AWP.segP (id := 40) 7 mixed (by kernel_rfl) fun K hK => ?_; simp only [List.take_succ_cons, List.take_zero, List.drop_succ_cons, List.drop_zero])
    | (with_reducible refine AWP.segP (id := 47) 11 mixed (by kernel_rfl) fun K hK => ?_; simp only [List.take_succ_cons, List.take_zero, List.drop_succ_cons, List.drop_zero])
    | (with_reducible refine AWP.parR mixed (by kernel_rfl) fun K hK => ?_)
    | (with_reducible refine Or.inl ?_)
    | (simp only [go_sem, Nat.reduceBEq, Nat.reduceBNe, Nat.reduceAdd, Nat.reduceSub, Nat.reduceMul, Nat.reduceLeDiff, Nat.reduceLT, reduceCtorEq, Nat.reduceEqDiff, Int.reduceToNat, Int.reduceLE, Int.reduceLT, Int.reduceEq, pin, hk, hgt, hw1, hw2])
    | (clear hK K))
  all_goals (refine ⟨by simp only [madeBase, cond_true, cond_false, decide_true, decide_false, Int.reduceEq, Dt, encDat_eq, atomDat, intDat, funDat, zeroDat]; rfl, fun x hx => ?_⟩)
  all_goals (simp only [List.mem_singleton] at hx; subst hx; simp [madeBase, pin])
end Go.Proofs.Ytmpfdejckbceiaa
