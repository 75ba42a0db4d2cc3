/- A part of the proof: lemmas about the walk of the program and about plain integers and lists. No conditions beyond those that each lemma states. -/
import Derived.Test.YtmpfdejckbceiaaOp20
import Derived.Test.YtmpfdejckbceiaaOp21
import Derived.Lib.Bytealg
import Derived.Lib.Walk
set_option linter.unusedSimpArgs false
set_option linter.unusedVariables false
set_option maxRecDepth 20000
set_option maxHeartbeats 1000000
namespace Go.Proofs.Ytmpfdejckbceiaa
open Go Go.Sx

def cmpI (a b : Int) : Int := bif decide (a < b) then -1 else bif decide (b < a) then 1 else 0
theorem isNaN_c (a : Int) : PC Try.prog 117 [I .i64 a] (Bo false) := by
  refine PCB.of_body Try.func117 rfl (by decide) Try.ntmps117 Try.results117 rfl rfl rfl ?_ rfl rfl
  repeat' (first
    | ((first | with_reducible refine seqVC_stepN rfl fun K hK => ?_ | with_reducible refine seqVC_stepG rfl (by with_unfolding_all rfl) fun K hK => ?_); (try simp only [go_sem, Nat.reduceBEq, Nat.reduceBNe, Nat.reduceAdd, Nat.reduceSub, Nat.reduceMul, Nat.reduceLeDiff, Nat.reduceLT, reduceCtorEq, Nat.reduceEqDiff, Int.reduceToNat, Int.reduceLE, Int.reduceLT, Int.reduceEq, decide_true]); all_goals fail_if_success guard_target =ₛ False)
    | with_reducible refine seqVC_nil ?_
    | (with_reducible refine hK _ _ _ ?_; clear hK K)
    | (with_reducible refine hK _ _ ?_; clear hK K)
    | (with_reducible refine hK _ ?_; clear hK K)
    | with_reducible refine AWP.seq fun K hK => ?_
    | (with_reducible refine AWP.seqR (by kernel_rfl) fun K hK => ?_)
    | ((first | with_reducible refine parVC_stepN rfl fun K hK => ?_ | with_reducible refine parVC_stepG rfl (by with_unfolding_all rfl) fun K hK => ?_ | with_reducible refine parEVC_stepN rfl fun K hK => ?_ | with_reducible refine parEVC_stepG rfl (by with_unfolding_all rfl) fun K hK => ?_ | with_reducible refine genVC_stepN rfl fun K hK => ?_ | with_reducible refine genVC_stepG rfl (by with_unfolding_all rfl) fun K hK => ?_); (try simp only [go_sem, Nat.reduceBEq, Nat.reduceBNe, Nat.reduceAdd, Nat.reduceSub, Nat.reduceMul, Nat.reduceLeDiff, Nat.reduceLT, reduceCtorEq, Nat.reduceEqDiff, Int.reduceToNat, Int.reduceLE, Int.reduceLT, Int.reduceEq, decide_true]); all_goals fail_if_success guard_target =ₛ False)
    | with_reducible refine parVC_nil ?_
    | with_reducible refine parEVC_nil ?_
    | with_reducible refine genVC_nil ?_
    | (with_reducible refine AWP.cond (by with_unfolding_all rfl) (fun h => ?_) (fun h => ?_); all_goals (try simp only [Bool.not_eq_true', Bool.not_eq_false'] at h); (all_goals try first | (exact absurd h Bool.false_ne_true) | (exact absurd h.symm Bool.false_ne_true) | (exact absurd h (by decide))))
    | with_reducible refine AWP.skip ?_
    | with_reducible refine AWP.ret ?_
    | with_reducible refine AWP.block ?_
    | with_reducible refine AWP.exit ?_
    | (with_reducible refine ⟨fun h => ?_, fun h => ?_⟩ <;> (try simp only [Bool.not_eq_true', Bool.not_eq_false'] at h) <;> simp only [h, go_sem, Nat.reduceBEq, Nat.reduceBNe, Nat.reduceAdd, Nat.reduceSub, Nat.reduceMul, Nat.reduceLeDiff, Nat.reduceLT, reduceCtorEq, Nat.reduceEqDiff, Int.reduceToNat, Int.reduceLE, Int.reduceLT, Int.reduceEq, decide_true])
    | (with_reducible refine AWP.parR mixed (by kernel_rfl) fun K hK => ?_)
    | (with_reducible refine Or.inl ?_)
    | (simp only [go_sem, Nat.reduceBEq, Nat.reduceBNe, Nat.reduceAdd, Nat.reduceSub, Nat.reduceMul, Nat.reduceLeDiff, Nat.reduceLT, reduceCtorEq, Nat.reduceEqDiff, Int.reduceToNat, Int.reduceLE, Int.reduceLT, Int.reduceEq, decide_true])
    | (clear hK K))
  all_goals (first | exact fun _ h => (by cases h) | refine fin0 ?_)
  all_goals (simp)
theorem isNaN64_c (a : Int) : PC Try.prog 123 [I .i64 a] (Bo false) := by
  refine PCB.of_body Try.func123 rfl (by decide) Try.ntmps123 Try.results123 rfl rfl rfl ?_ rfl rfl
  repeat' (first
    | ((first | with_reducible refine seqVC_stepN rfl fun K hK => ?_ | with_reducible refine seqVC_stepG rfl (by with_unfolding_all rfl) fun K hK => ?_); (try simp only [go_sem, Nat.reduceBEq, Nat.reduceBNe, Nat.reduceAdd, Nat.reduceSub, Nat.reduceMul, Nat.reduceLeDiff, Nat.reduceLT, reduceCtorEq, Nat.reduceEqDiff, Int.reduceToNat, Int.reduceLE, Int.reduceLT, Int.reduceEq, decide_true]); all_goals fail_if_success guard_target =ₛ False)
    | with_reducible refine seqVC_nil ?_
    | (with_reducible refine hK _ _ _ ?_; clear hK K)
    | (with_reducible refine hK _ _ ?_; clear hK K)
    | (with_reducible refine hK _ ?_; clear hK K)
    | with_reducible refine AWP.seq fun K hK => ?_
    | (with_reducible refine AWP.seqR (by kernel_rfl) fun K hK => ?_)
    | ((first | with_reducible refine parVC_stepN rfl fun K hK => ?_ | with_reducible refine parVC_stepG rfl (by with_unfolding_all rfl) fun K hK => ?_ | with_reducible refine parEVC_stepN rfl fun K hK => ?_ | with_reducible refine parEVC_stepG rfl (by with_unfolding_all rfl) fun K hK => ?_ | with_reducible refine genVC_stepN rfl fun K hK => ?_ | with_reducible refine genVC_stepG rfl (by with_unfolding_all rfl) fun K hK => ?_); (try simp only [go_sem, Nat.reduceBEq, Nat.reduceBNe, Nat.reduceAdd, Nat.reduceSub, Nat.reduceMul, Nat.reduceLeDiff, Nat.reduceLT, reduceCtorEq, Nat.reduceEqDiff, Int.reduceToNat, Int.reduceLE, Int.reduceLT, Int.reduceEq, decide_true]); all_goals fail_if_success guard_target =ₛ False)
    | with_reducible refine parVC_nil ?_
    | with_reducible refine parEVC_nil ?_
    | with_reducible refine genVC_nil ?_
    | (with_reducible refine AWP.cond (by with_unfolding_all rfl) (fun h => ?_) (fun h => ?_); all_goals (try simp only [Bool.not_eq_true', Bool.not_eq_false'] at h); (all_goals try first | (exact absurd h Bool.false_ne_true) | (exact absurd h.symm Bool.false_ne_true) | (exact absurd h (by decide))))
    | with_reducible refine AWP.skip ?_
    | with_reducible refine AWP.ret ?_
    | with_reducible refine AWP.block ?_
    | with_reducible refine AWP.exit ?_
    | (with_reducible refine ⟨fun h => ?_, fun h => ?_⟩ <;> (try simp only [Bool.not_eq_true', Bool.not_eq_false'] at h) <;> simp only [h, go_sem, Nat.reduceBEq, Nat.reduceBNe, Nat.reduceAdd, Nat.reduceSub, Nat.reduceMul, Nat.reduceLeDiff, Nat.reduceLT, reduceCtorEq, Nat.reduceEqDiff, Int.reduceToNat, Int.reduceLE, Int.reduceLT, Int.reduceEq, decide_true])
    | (with_reducible refine AWP.parR mixed (by kernel_rfl) fun K hK => ?_)
    | (with_reducible refine Or.inl ?_)
    | (simp only [go_sem, Nat.reduceBEq, Nat.reduceBNe, Nat.reduceAdd, Nat.reduceSub, Nat.reduceMul, Nat.reduceLeDiff, Nat.reduceLT, reduceCtorEq, Nat.reduceEqDiff, Int.reduceToNat, Int.reduceLE, Int.reduceLT, Int.reduceEq, decide_true])
    | (clear hK K))
  all_goals (first | exact fun _ h => (by cases h) | refine fin0 ?_)
  all_goals (simp)
theorem cmpInt_c (a b : Int) : PC Try.prog 87 [I .i64 a, I .i64 b] (I .i64 (cmpI a b)) := by
  refine PCB.of_body Try.func87 rfl (by decide) Try.ntmps87 Try.results87 rfl rfl rfl ?_ rfl rfl
  cases h1 : decide (a < b) <;> cases h2 : decide (b < a)
  repeat' (first
    | ((first | with_reducible refine seqVC_stepN rfl fun K hK => ?_ | with_reducible refine seqVC_stepG rfl (by with_unfolding_all rfl) fun K hK => ?_); (try simp only [go_sem, Nat.reduceBEq, Nat.reduceBNe, Nat.reduceAdd, Nat.reduceSub, Nat.reduceMul, Nat.reduceLeDiff, Nat.reduceLT, reduceCtorEq, Nat.reduceEqDiff, Int.reduceToNat, Int.reduceLE, Int.reduceLT, Int.reduceEq, h1, h2, gt_iff_lt]); all_goals fail_if_success guard_target =ₛ False)
    | with_reducible refine seqVC_nil ?_
    | (with_reducible refine hK _ _ _ ?_; clear hK K)
    | (with_reducible refine hK _ _ ?_; clear hK K)
    | (with_reducible refine hK _ ?_; clear hK K)
    | with_reducible refine AWP.seq fun K hK => ?_
    | (with_reducible refine AWP.seqR (by kernel_rfl) fun K hK => ?_)
    | ((first | with_reducible refine parVC_stepN rfl fun K hK => ?_ | with_reducible refine parVC_stepG rfl (by with_unfolding_all rfl) fun K hK => ?_ | with_reducible refine parEVC_stepN rfl fun K hK => ?_ | with_reducible refine parEVC_stepG rfl (by with_unfolding_all rfl) fun K hK => ?_ | with_reducible refine genVC_stepN rfl fun K hK => ?_ | with_reducible refine genVC_stepG rfl (by with_unfolding_all rfl) fun K hK => ?_); (try simp only [go_sem, Nat.reduceBEq, Nat.reduceBNe, Nat.reduceAdd, Nat.reduceSub, Nat.reduceMul, Nat.reduceLeDiff, Nat.reduceLT, reduceCtorEq, Nat.reduceEqDiff, Int.reduceToNat, Int.reduceLE, Int.reduceLT, Int.reduceEq, h1, h2, gt_iff_lt]); all_goals fail_if_success guard_target =ₛ False)
    | with_reducible refine parVC_nil ?_
    | with_reducible refine parEVC_nil ?_
    | with_reducible refine genVC_nil ?_
    | (with_reducible refine AWP.cond (by with_unfolding_all rfl) (fun h => ?_) (fun h => ?_); all_goals (try simp only [Bool.not_eq_true', Bool.not_eq_false'] at h); (all_goals try first | (exact absurd h Bool.false_ne_true) | (exact absurd h.symm Bool.false_ne_true) | (exact absurd h (by decide))))
    | with_reducible refine AWP.skip ?_
    | with_reducible refine AWP.ret ?_
    | with_reducible refine AWP.block ?_
    | with_reducible refine AWP.exit ?_
    | (with_reducible refine ⟨fun h => ?_, fun h => ?_⟩ <;> (try simp only [Bool.not_eq_true', Bool.not_eq_false'] at h) <;> simp only [h, go_sem, Nat.reduceBEq, Nat.reduceBNe, Nat.reduceAdd, Nat.reduceSub, Nat.reduceMul, Nat.reduceLeDiff, Nat.reduceLT, reduceCtorEq, Nat.reduceEqDiff, Int.reduceToNat, Int.reduceLE, Int.reduceLT, Int.reduceEq, h1, h2, gt_iff_lt])
    | ((first | (with_reducible refine ⟨_, isNaN_c _, ?_⟩)); try simp only [go_sem, Nat.reduceBEq, Nat.reduceBNe, Nat.reduceAdd, Nat.reduceSub, Nat.reduceMul, Nat.reduceLeDiff, Nat.reduceLT, reduceCtorEq, Nat.reduceEqDiff, Int.reduceToNat, Int.reduceLE, Int.reduceLT, Int.reduceEq, h1, h2, gt_iff_lt])
    | (with_reducible refine AWP.parR mixed (by kernel_rfl) fun K hK => ?_)
    | (with_reducible refine Or.inl ?_)
    | (simp only [go_sem, Nat.reduceBEq, Nat.reduceBNe, Nat.reduceAdd, Nat.reduceSub, Nat.reduceMul, Nat.reduceLeDiff, Nat.reduceLT, reduceCtorEq, Nat.reduceEqDiff, Int.reduceToNat, Int.reduceLE, Int.reduceLT, Int.reduceEq, h1, h2, gt_iff_lt])
    | (clear hK K))
  all_goals (refine fin0 ?_; simp only [cmpI, h1, h2, cond_true, cond_false])
theorem cmpInt64_c (a b : Int) : PC Try.prog 96 [I .i64 a, I .i64 b] (I .i64 (cmpI a b)) := by
  refine PCB.of_body Try.func96 rfl (by decide) Try.ntmps96 Try.results96 rfl rfl rfl ?_ rfl rfl
  cases h1 : decide (a < b) <;> cases h2 : decide (b < a)
  repeat' (first
    | ((first | with_reducible refine seqVC_stepN rfl fun K hK => ?_ | with_reducible refine seqVC_stepG rfl (by with_unfolding_all rfl) fun K hK => ?_); (try simp only [go_sem, Nat.reduceBEq, Nat.reduceBNe, Nat.reduceAdd, Nat.reduceSub, Nat.reduceMul, Nat.reduceLeDiff, Nat.reduceLT, reduceCtorEq, Nat.reduceEqDiff, Int.reduceToNat, Int.reduceLE, Int.reduceLT, Int.reduceEq, h1, h2, gt_iff_lt]); all_goals fail_if_success guard_target =ₛ False)
    | with_reducible refine seqVC_nil ?_
    | (with_reducible refine hK _ _ _ ?_; clear hK K)
    | (with_reducible refine hK _ _ ?_; clear hK K)
    | (with_reducible refine hK _ ?_; clear hK K)
    | with_reducible refine AWP.seq fun K hK => ?_
    | (with_reducible refine AWP.seqR (by kernel_rfl) fun K hK => ?_)
    | ((first | with_reducible refine parVC_stepN rfl fun K hK => ?_ | with_reducible refine parVC_stepG rfl (by with_unfolding_all rfl) fun K hK => ?_ | with_reducible refine parEVC_stepN rfl fun K hK => ?_ | with_reducible refine parEVC_stepG rfl (by with_unfolding_all rfl) fun K hK => ?_ | with_reducible refine genVC_stepN rfl fun K hK => ?_ | with_reducible refine genVC_stepG rfl (by with_unfolding_all rfl) fun K hK => ?_); (try simp only [go_sem, Nat.reduceBEq, Nat.reduceBNe, Nat.reduceAdd, Nat.reduceSub, Nat.reduceMul, Nat.reduceLeDiff, Nat.reduceLT, reduceCtorEq, Nat.reduceEqDiff, Int.reduceToNat, Int.reduceLE, Int.reduceLT, Int.reduceEq, h1, h2, gt_iff_lt]); all_goals fail_if_success guard_target =ₛ False)
    | with_reducible refine parVC_nil ?_
    | with_reducible refine parEVC_nil ?_
    | with_reducible refine genVC_nil ?_
    | (with_reducible refine AWP.cond (by with_unfolding_all rfl) (fun h => ?_) (fun h => ?_); all_goals (try simp only [Bool.not_eq_true', Bool.not_eq_false'] at h); (all_goals try first | (exact absurd h Bool.false_ne_true) | (exact absurd h.symm Bool.false_ne_true) | (exact absurd h (by decide))))
    | with_reducible refine AWP.skip ?_
    | with_reducible refine AWP.ret ?_
    | with_reducible refine AWP.block ?_
    | with_reducible refine AWP.exit ?_
    | (with_reducible refine ⟨fun h => ?_, fun h => ?_⟩ <;> (try simp only [Bool.not_eq_true', Bool.not_eq_false'] at h) <;> simp only [h, go_sem, Nat.reduceBEq, Nat.reduceBNe, Nat.reduceAdd, Nat.reduceSub, Nat.reduceMul, Nat.reduceLeDiff, Nat.reduceLT, reduceCtorEq, Nat.reduceEqDiff, Int.reduceToNat, Int.reduceLE, Int.reduceLT, Int.reduceEq, h1, h2, gt_iff_lt])
    | ((first | (with_reducible refine ⟨_, isNaN64_c _, ?_⟩)); try simp only [go_sem, Nat.reduceBEq, Nat.reduceBNe, Nat.reduceAdd, Nat.reduceSub, Nat.reduceMul, Nat.reduceLeDiff, Nat.reduceLT, reduceCtorEq, Nat.reduceEqDiff, Int.reduceToNat, Int.reduceLE, Int.reduceLT, Int.reduceEq, h1, h2, gt_iff_lt])
    | (with_reducible refine AWP.parR mixed (by kernel_rfl) fun K hK => ?_)
    | (with_reducible refine Or.inl ?_)
    | (simp only [go_sem, Nat.reduceBEq, Nat.reduceBNe, Nat.reduceAdd, Nat.reduceSub, Nat.reduceMul, Nat.reduceLeDiff, Nat.reduceLT, reduceCtorEq, Nat.reduceEqDiff, Int.reduceToNat, Int.reduceLE, Int.reduceLT, Int.reduceEq, h1, h2, gt_iff_lt])
    | (clear hK K))
  all_goals (refine fin0 ?_; simp only [cmpI, h1, h2, cond_true, cond_false])

def firstC {α : Type} (f : α → α → Int) : List α → List α → Int
  | x :: a, y :: b => bif decide (f x y = 0) then firstC f a b else f x y
  | _, _ => 0
theorem firstC_nil {α : Type} (f : α → α → Int) (l : List α) : firstC f [] l = 0 := by cases l <;> rfl
def listCmp {α : Type} (f : α → α → Int) (a b : List α) : Int := bif decide (cmpI a.length b.length = 0) then firstC f a b else cmpI a.length b.length
theorem cmpI_zero {a b : Int} : cmpI a b = 0 ↔ a = b := by
  unfold cmpI
  cases h1 : decide (a < b) <;> cases h2 : decide (b < a) <;> simp only [decide_eq_true_eq, decide_eq_false_iff_not] at h1 h2 <;> simp <;> omega

theorem cmpKeys_c (g : FuncId) (f : KeyD → KeyD → Int) (a b : List KeyD) (hg : ∀ x ∈ a, ∀ y ∈ b, PC Try.prog g [T.st (encKey x), T.st (encKey y)] (I .i64 (f x y))) :
    PC Try.prog 97 [.one (.dat (.sl 2 (a.map encKey))), .one (.dat (.sl 2 (b.map encKey))), .one (.dat (.fn g))] (I .i64 (listCmp f a b)) := by
  refine PCB.of_body Try.func97 rfl (by decide) Try.ntmps97 Try.results97 rfl rfl rfl ?_ rfl rfl
  refine AWP.len 0 rfl fun hlen => ?_
  rw [List.length_map] at hlen
  cases h0 : decide (cmpI a.length b.length = 0) with
  | false =>
    repeat' (first
      | ((first | with_reducible refine seqVC_stepN rfl fun K hK => ?_ | with_reducible refine seqVC_stepG rfl (by with_unfolding_all rfl) fun K hK => ?_); (try simp only [go_sem, Nat.reduceBEq, Nat.reduceBNe, Nat.reduceAdd, Nat.reduceSub, Nat.reduceMul, Nat.reduceLeDiff, Nat.reduceLT, reduceCtorEq, Nat.reduceEqDiff, Int.reduceToNat, Int.reduceLE, Int.reduceLT, Int.reduceEq, List.length_map, h0]); all_goals fail_if_success guard_target =ₛ False)
      | with_reducible refine seqVC_nil ?_
      | (with_reducible refine hK _ _ _ ?_; clear hK K)
      | (with_reducible refine hK _ _ ?_; clear hK K)
      | (with_reducible refine hK _ ?_; clear hK K)
      | with_reducible refine AWP.seq fun K hK => ?_
      | (with_reducible refine AWP.seqR (by kernel_rfl) fun K hK => ?_)
      | ((first | with_reducible refine parVC_stepN rfl fun K hK => ?_ | with_reducible refine parVC_stepG rfl (by with_unfolding_all rfl) fun K hK => ?_ | with_reducible refine parEVC_stepN rfl fun K hK => ?_ | with_reducible refine parEVC_stepG rfl (by with_unfolding_all rfl) fun K hK => ?_ | with_reducible refine genVC_stepN rfl fun K hK => ?_ | with_reducible refine genVC_stepG rfl (by with_unfolding_all rfl) fun K hK => ?_); (try simp only [go_sem, Nat.reduceBEq, Nat.reduceBNe, Nat.reduceAdd, Nat.reduceSub, Nat.reduceMul, Nat.reduceLeDiff, Nat.reduceLT, reduceCtorEq, Nat.reduceEqDiff, Int.reduceToNat, Int.reduceLE, Int.reduceLT, Int.reduceEq, List.length_map, h0]); all_goals fail_if_success guard_target =ₛ False)
      | with_reducible refine parVC_nil ?_
      | with_reducible refine parEVC_nil ?_
      | with_reducible refine genVC_nil ?_
      | (with_reducible refine AWP.cond (by with_unfolding_all rfl) (fun h => ?_) (fun h => ?_); all_goals (try simp only [Bool.not_eq_true', Bool.not_eq_false'] at h); (all_goals try first | (exact absurd h Bool.false_ne_true) | (exact absurd h.symm Bool.false_ne_true) | (exact absurd h (by decide))))
      | with_reducible refine AWP.skip ?_
      | with_reducible refine AWP.ret ?_
      | with_reducible refine AWP.block ?_
      | with_reducible refine AWP.exit ?_
      | (with_reducible refine ⟨fun h => ?_, fun h => ?_⟩ <;> (try simp only [Bool.not_eq_true', Bool.not_eq_false'] at h) <;> simp only [h, go_sem, Nat.reduceBEq, Nat.reduceBNe, Nat.reduceAdd, Nat.reduceSub, Nat.reduceMul, Nat.reduceLeDiff, Nat.reduceLT, reduceCtorEq, Nat.reduceEqDiff, Int.reduceToNat, Int.reduceLE, Int.reduceLT, Int.reduceEq, List.length_map, h0])
      | ((first | (with_reducible refine ⟨_, cmpInt_c _ _, ?_⟩)); try simp only [go_sem, Nat.reduceBEq, Nat.reduceBNe, Nat.reduceAdd, Nat.reduceSub, Nat.reduceMul, Nat.reduceLeDiff, Nat.reduceLT, reduceCtorEq, Nat.reduceEqDiff, Int.reduceToNat, Int.reduceLE, Int.reduceLT, Int.reduceEq, List.length_map, h0])
      | (with_reducible refine AWP.parR mixed (by kernel_rfl) fun K hK => ?_)
      | (with_reducible refine Or.inl ?_)
      | (simp only [go_sem, Nat.reduceBEq, Nat.reduceBNe, Nat.reduceAdd, Nat.reduceSub, Nat.reduceMul, Nat.reduceLeDiff, Nat.reduceLT, reduceCtorEq, Nat.reduceEqDiff, Int.reduceToNat, Int.reduceLE, Int.reduceLT, Int.reduceEq, List.length_map, h0])
      | (clear hK K))
    all_goals (refine fin0 ?_; simp only [listCmp, h0, cond_false])
  | true =>
    have hl : a.length = b.length := by
      have := cmpI_zero.1 (of_decide_eq_true h0)
      omega
    repeat' (first
      | ((first | with_reducible refine seqVC_stepN rfl fun K hK => ?_ | with_reducible refine seqVC_stepG rfl (by with_unfolding_all rfl) fun K hK => ?_); (try simp only [go_sem, Nat.reduceBEq, Nat.reduceBNe, Nat.reduceAdd, Nat.reduceSub, Nat.reduceMul, Nat.reduceLeDiff, Nat.reduceLT, reduceCtorEq, Nat.reduceEqDiff, Int.reduceToNat, Int.reduceLE, Int.reduceLT, Int.reduceEq, List.length_map, h0]); all_goals fail_if_success guard_target =ₛ False)
      | with_reducible refine seqVC_nil ?_
      | (with_reducible refine hK _ _ _ ?_; clear hK K)
      | (with_reducible refine hK _ _ ?_; clear hK K)
      | (with_reducible refine hK _ ?_; clear hK K)
      | with_reducible refine AWP.seq fun K hK => ?_
      | (with_reducible refine AWP.seqR (by kernel_rfl) fun K hK => ?_)
      | ((first | with_reducible refine parVC_stepN rfl fun K hK => ?_ | with_reducible refine parVC_stepG rfl (by with_unfolding_all rfl) fun K hK => ?_ | with_reducible refine parEVC_stepN rfl fun K hK => ?_ | with_reducible refine parEVC_stepG rfl (by with_unfolding_all rfl) fun K hK => ?_ | with_reducible refine genVC_stepN rfl fun K hK => ?_ | with_reducible refine genVC_stepG rfl (by with_unfolding_all rfl) fun K hK => ?_); (try simp only [go_sem, Nat.reduceBEq, Nat.reduceBNe, Nat.reduceAdd, Nat.reduceSub, Nat.reduceMul, Nat.reduceLeDiff, Nat.reduceLT, reduceCtorEq, Nat.reduceEqDiff, Int.reduceToNat, Int.reduceLE, Int.reduceLT, Int.reduceEq, List.length_map, h0]); all_goals fail_if_success guard_target =ₛ False)
      | with_reducible refine parVC_nil ?_
      | with_reducible refine parEVC_nil ?_
      | with_reducible refine genVC_nil ?_
      | (with_reducible refine AWP.cond (by with_unfolding_all rfl) (fun h => ?_) (fun h => ?_); all_goals (try simp only [Bool.not_eq_true', Bool.not_eq_false'] at h); (all_goals try first | (exact absurd h Bool.false_ne_true) | (exact absurd h.symm Bool.false_ne_true) | (exact absurd h (by decide))))
      | with_reducible refine AWP.skip ?_
      | with_reducible refine AWP.ret ?_
      | with_reducible refine AWP.block ?_
      | with_reducible refine AWP.exit ?_
      | (with_reducible refine ⟨fun h => ?_, fun h => ?_⟩ <;> (try simp only [Bool.not_eq_true', Bool.not_eq_false'] at h) <;> simp only [h, go_sem, Nat.reduceBEq, Nat.reduceBNe, Nat.reduceAdd, Nat.reduceSub, Nat.reduceMul, Nat.reduceLeDiff, Nat.reduceLT, reduceCtorEq, Nat.reduceEqDiff, Int.reduceToNat, Int.reduceLE, Int.reduceLT, Int.reduceEq, List.length_map, h0])
      | ((first | (with_reducible refine ⟨_, cmpInt_c _ _, ?_⟩)); try simp only [go_sem, Nat.reduceBEq, Nat.reduceBNe, Nat.reduceAdd, Nat.reduceSub, Nat.reduceMul, Nat.reduceLeDiff, Nat.reduceLT, reduceCtorEq, Nat.reduceEqDiff, Int.reduceToNat, Int.reduceLE, Int.reduceLT, Int.reduceEq, List.length_map, h0])
      | (with_reducible refine AWP.parR mixed (by kernel_rfl) fun K hK => ?_)
      | (with_reducible refine Or.inl ?_)
      | (simp only [go_sem, Nat.reduceBEq, Nat.reduceBNe, Nat.reduceAdd, Nat.reduceSub, Nat.reduceMul, Nat.reduceLeDiff, Nat.reduceLT, reduceCtorEq, Nat.reduceEqDiff, Int.reduceToNat, Int.reduceLE, Int.reduceLT, Int.reduceEq, List.length_map, h0])
      | (clear hK K))
    refine AWP.loopS (X := Nat × Unit) (fun x => [(20, I .i64 x.1), (19, I .i64 a.length), (0, .one (.dat (.sl 2 (a.map encKey)))), (1, .one (.dat (.sl 2 (b.map encKey)))), (2, .one (.dat (.fn g)))]) (fun _ => [])
      (fun x => x.1 ≤ a.length ∧ firstC f a b = firstC f (a.drop x.1) (b.drop x.1)) (fun x => a.length - x.1) (0, ()) (Gh.to [] (by repeat (first | exact trivial | refine ⟨rfl, ?_⟩ | refine ⟨by (simp only [go_sem, Nat.reduceBEq, Nat.reduceBNe, Nat.reduceAdd, Nat.reduceSub, Nat.reduceMul, Nat.reduceLeDiff, Nat.reduceLT, reduceCtorEq, Nat.reduceEqDiff, Int.reduceToNat, Int.reduceLE, Int.reduceLT, Int.reduceEq]) <;> rfl, ?_⟩)) (by repeat (first | exact trivial | refine ⟨rfl, ?_⟩ | refine ⟨by (simp only [go_sem, Nat.reduceBEq, Nat.reduceBNe, Nat.reduceAdd, Nat.reduceSub, Nat.reduceMul, Nat.reduceLeDiff, Nat.reduceLT, reduceCtorEq, Nat.reduceEqDiff, Int.reduceToNat, Int.reduceLE, Int.reduceLT, Int.reduceEq]) <;> rfl, ?_⟩)) rfl rfl rfl) ⟨Nat.zero_le _, rfl⟩ ?_
    rintro ⟨k, u⟩ ⟨hk, hp⟩
    simp only at hk hp
    by_cases hlt : k < a.length
    · obtain ⟨x, hx, hx', hb, hdx⟩ := at_lt (enc := encKey) hlt
      obtain ⟨y, hy, hy', _, hdy⟩ := at_lt (enc := encKey) (show k < b.length by omega)
      rw [hdx, hdy, firstC] at hp
      have hgx := hg x (List.mem_of_getElem? hx) y (List.mem_of_getElem? hy)
      cases hz : decide (f x y = 0)
      ·
        repeat' (first
          | ((first | with_reducible refine seqVC_stepN rfl fun K hK => ?_ | with_reducible refine seqVC_stepG rfl (by with_unfolding_all rfl) fun K hK => ?_); (try simp only [go_sem, Nat.reduceBEq, Nat.reduceBNe, Nat.reduceAdd, Nat.reduceSub, Nat.reduceMul, Nat.reduceLeDiff, Nat.reduceLT, reduceCtorEq, Nat.reduceEqDiff, Int.reduceToNat, Int.reduceLE, Int.reduceLT, Int.reduceEq, List.length_map, hb, hz]); all_goals fail_if_success guard_target =ₛ False)
          | with_reducible refine seqVC_nil ?_
          | (with_reducible refine hK _ _ _ ?_; clear hK K)
          | (with_reducible refine hK _ _ ?_; clear hK K)
          | (with_reducible refine hK _ ?_; clear hK K)
          | with_reducible refine AWP.seq fun K hK => ?_
          | (with_reducible refine AWP.seqR (by kernel_rfl) fun K hK => ?_)
          | ((first | with_reducible refine parVC_stepN rfl fun K hK => ?_ | with_reducible refine parVC_stepG rfl (by with_unfolding_all rfl) fun K hK => ?_ | with_reducible refine parEVC_stepN rfl fun K hK => ?_ | with_reducible refine parEVC_stepG rfl (by with_unfolding_all rfl) fun K hK => ?_ | with_reducible refine genVC_stepN rfl fun K hK => ?_ | with_reducible refine genVC_stepG rfl (by with_unfolding_all rfl) fun K hK => ?_); (try simp only [go_sem, Nat.reduceBEq, Nat.reduceBNe, Nat.reduceAdd, Nat.reduceSub, Nat.reduceMul, Nat.reduceLeDiff, Nat.reduceLT, reduceCtorEq, Nat.reduceEqDiff, Int.reduceToNat, Int.reduceLE, Int.reduceLT, Int.reduceEq, List.length_map, hb, hz]); all_goals fail_if_success guard_target =ₛ False)
          | with_reducible refine parVC_nil ?_
          | with_reducible refine parEVC_nil ?_
          | with_reducible refine genVC_nil ?_
          | (with_reducible refine AWP.cond (by with_unfolding_all rfl) (fun h => ?_) (fun h => ?_); all_goals (try simp only [Bool.not_eq_true', Bool.not_eq_false'] at h); (all_goals try first | (exact absurd h Bool.false_ne_true) | (exact absurd h.symm Bool.false_ne_true) | (exact absurd h (by decide))))
          | with_reducible refine AWP.skip ?_
          | with_reducible refine AWP.ret ?_
          | with_reducible refine AWP.block ?_
          | with_reducible refine AWP.exit ?_
          | (with_reducible refine ⟨fun h => ?_, fun h => ?_⟩ <;> (try simp only [Bool.not_eq_true', Bool.not_eq_false'] at h) <;> simp only [h, go_sem, Nat.reduceBEq, Nat.reduceBNe, Nat.reduceAdd, Nat.reduceSub, Nat.reduceMul, Nat.reduceLeDiff, Nat.reduceLT, reduceCtorEq, Nat.reduceEqDiff, Int.reduceToNat, Int.reduceLE, Int.reduceLT, Int.reduceEq, List.length_map, hb, hz])
          | ((first | (with_reducible refine ⟨_, hgx, ?_⟩)); try simp only [go_sem, Nat.reduceBEq, Nat.reduceBNe, Nat.reduceAdd, Nat.reduceSub, Nat.reduceMul, Nat.reduceLeDiff, Nat.reduceLT, reduceCtorEq, Nat.reduceEqDiff, Int.reduceToNat, Int.reduceLE, Int.reduceLT, Int.reduceEq, List.length_map, hb, hz])
          | (with_reducible refine ⟨by omega, encKey x, hx', ?_⟩)
          | (with_reducible refine ⟨by omega, encKey y, hy', ?_⟩)
          | (with_reducible refine AWP.parR mixed (by kernel_rfl) fun K hK => ?_)
          | (with_reducible refine Or.inl ?_)
          | (simp only [go_sem, Nat.reduceBEq, Nat.reduceBNe, Nat.reduceAdd, Nat.reduceSub, Nat.reduceMul, Nat.reduceLeDiff, Nat.reduceLT, reduceCtorEq, Nat.reduceEqDiff, Int.reduceToNat, Int.reduceLE, Int.reduceLT, Int.reduceEq, List.length_map, hb, hz])
          | (clear hK K))
        all_goals (refine fin0 ?_; simp only [listCmp, h0, hp, hz, cond_true, cond_false])
      ·
        repeat' (first
          | ((first | with_reducible refine seqVC_stepN rfl fun K hK => ?_ | with_reducible refine seqVC_stepG rfl (by with_unfolding_all rfl) fun K hK => ?_); (try simp only [go_sem, Nat.reduceBEq, Nat.reduceBNe, Nat.reduceAdd, Nat.reduceSub, Nat.reduceMul, Nat.reduceLeDiff, Nat.reduceLT, reduceCtorEq, Nat.reduceEqDiff, Int.reduceToNat, Int.reduceLE, Int.reduceLT, Int.reduceEq, List.length_map, hb, hz]); all_goals fail_if_success guard_target =ₛ False)
          | with_reducible refine seqVC_nil ?_
          | (with_reducible refine hK _ _ _ ?_; clear hK K)
          | (with_reducible refine hK _ _ ?_; clear hK K)
          | (with_reducible refine hK _ ?_; clear hK K)
          | with_reducible refine AWP.seq fun K hK => ?_
          | (with_reducible refine AWP.seqR (by kernel_rfl) fun K hK => ?_)
          | ((first | with_reducible refine parVC_stepN rfl fun K hK => ?_ | with_reducible refine parVC_stepG rfl (by with_unfolding_all rfl) fun K hK => ?_ | with_reducible refine parEVC_stepN rfl fun K hK => ?_ | with_reducible refine parEVC_stepG rfl (by with_unfolding_all rfl) fun K hK => ?_ | with_reducible refine genVC_stepN rfl fun K hK => ?_ | with_reducible refine genVC_stepG rfl (by with_unfolding_all rfl) fun K hK => ?_); (try simp only [go_sem, Nat.reduceBEq, Nat.reduceBNe, Nat.reduceAdd, Nat.reduceSub, Nat.reduceMul, Nat.reduceLeDiff, Nat.reduceLT, reduceCtorEq, Nat.reduceEqDiff, Int.reduceToNat, Int.reduceLE, Int.reduceLT, Int.reduceEq, List.length_map, hb, hz]); all_goals fail_if_success guard_target =ₛ False)
          | with_reducible refine parVC_nil ?_
          | with_reducible refine parEVC_nil ?_
          | with_reducible refine genVC_nil ?_
          | (with_reducible refine AWP.cond (by with_unfolding_all rfl) (fun h => ?_) (fun h => ?_); all_goals (try simp only [Bool.not_eq_true', Bool.not_eq_false'] at h); (all_goals try first | (exact absurd h Bool.false_ne_true) | (exact absurd h.symm Bool.false_ne_true) | (exact absurd h (by decide))))
          | with_reducible refine AWP.skip ?_
          | with_reducible refine AWP.ret ?_
          | with_reducible refine AWP.block ?_
          | with_reducible refine AWP.exit ?_
          | (with_reducible refine ⟨fun h => ?_, fun h => ?_⟩ <;> (try simp only [Bool.not_eq_true', Bool.not_eq_false'] at h) <;> simp only [h, go_sem, Nat.reduceBEq, Nat.reduceBNe, Nat.reduceAdd, Nat.reduceSub, Nat.reduceMul, Nat.reduceLeDiff, Nat.reduceLT, reduceCtorEq, Nat.reduceEqDiff, Int.reduceToNat, Int.reduceLE, Int.reduceLT, Int.reduceEq, List.length_map, hb, hz])
          | ((first | (with_reducible refine ⟨_, hgx, ?_⟩)); try simp only [go_sem, Nat.reduceBEq, Nat.reduceBNe, Nat.reduceAdd, Nat.reduceSub, Nat.reduceMul, Nat.reduceLeDiff, Nat.reduceLT, reduceCtorEq, Nat.reduceEqDiff, Int.reduceToNat, Int.reduceLE, Int.reduceLT, Int.reduceEq, List.length_map, hb, hz])
          | (with_reducible refine ⟨by omega, encKey x, hx', ?_⟩)
          | (with_reducible refine ⟨by omega, encKey y, hy', ?_⟩)
          | (with_reducible refine AWP.parR mixed (by kernel_rfl) fun K hK => ?_)
          | (with_reducible refine Or.inl ?_)
          | (simp only [go_sem, Nat.reduceBEq, Nat.reduceBNe, Nat.reduceAdd, Nat.reduceSub, Nat.reduceMul, Nat.reduceLeDiff, Nat.reduceLT, reduceCtorEq, Nat.reduceEqDiff, Int.reduceToNat, Int.reduceLE, Int.reduceLT, Int.reduceEq, List.length_map, hb, hz])
          | (clear hK K))
        all_goals (rw [hz, cond_true] at hp)
        all_goals (rw [wrap_succ hlt hlen])
        all_goals (refine ⟨(k + 1, ()), by simp only; omega, ⟨by simp only; omega, hp⟩, Gh.to [] (by repeat (first | exact trivial | refine ⟨rfl, ?_⟩ | refine ⟨by (simp only [go_sem, Nat.reduceBEq, Nat.reduceBNe, Nat.reduceAdd, Nat.reduceSub, Nat.reduceMul, Nat.reduceLeDiff, Nat.reduceLT, reduceCtorEq, Nat.reduceEqDiff, Int.reduceToNat, Int.reduceLE, Int.reduceLT, Int.reduceEq]) <;> rfl, ?_⟩)) (by repeat (first | exact trivial | refine ⟨rfl, ?_⟩ | refine ⟨by (simp only [go_sem, Nat.reduceBEq, Nat.reduceBNe, Nat.reduceAdd, Nat.reduceSub, Nat.reduceMul, Nat.reduceLeDiff, Nat.reduceLT, reduceCtorEq, Nat.reduceEqDiff, Int.reduceToNat, Int.reduceLE, Int.reduceLT, Int.reduceEq]) <;> rfl, ?_⟩)) rfl rfl rfl⟩)
    · have hb : decide ((k : Int) < (a.length : Int)) = false := by simpa using hlt
      rw [List.drop_eq_nil_of_le (show a.length ≤ k by omega), firstC_nil] at hp
      repeat' (first
        | ((first | with_reducible refine seqVC_stepN rfl fun K hK => ?_ | with_reducible refine seqVC_stepG rfl (by with_unfolding_all rfl) fun K hK => ?_); (try simp only [go_sem, Nat.reduceBEq, Nat.reduceBNe, Nat.reduceAdd, Nat.reduceSub, Nat.reduceMul, Nat.reduceLeDiff, Nat.reduceLT, reduceCtorEq, Nat.reduceEqDiff, Int.reduceToNat, Int.reduceLE, Int.reduceLT, Int.reduceEq, List.length_map, hb]); all_goals fail_if_success guard_target =ₛ False)
        | with_reducible refine seqVC_nil ?_
        | (with_reducible refine hK _ _ _ ?_; clear hK K)
        | (with_reducible refine hK _ _ ?_; clear hK K)
        | (with_reducible refine hK _ ?_; clear hK K)
        | with_reducible refine AWP.seq fun K hK => ?_
        | (with_reducible refine AWP.seqR (by kernel_rfl) fun K hK => ?_)
        | ((first | with_reducible refine parVC_stepN rfl fun K hK => ?_ | with_reducible refine parVC_stepG rfl (by with_unfolding_all rfl) fun K hK => ?_ | with_reducible refine parEVC_stepN rfl fun K hK => ?_ | with_reducible refine parEVC_stepG rfl (by with_unfolding_all rfl) fun K hK => ?_ | with_reducible refine genVC_stepN rfl fun K hK => ?_ | with_reducible refine genVC_stepG rfl (by with_unfolding_all rfl) fun K hK => ?_); (try simp only [go_sem, Nat.reduceBEq, Nat.reduceBNe, Nat.reduceAdd, Nat.reduceSub, Nat.reduceMul, Nat.reduceLeDiff, Nat.reduceLT, reduceCtorEq, Nat.reduceEqDiff, Int.reduceToNat, Int.reduceLE, Int.reduceLT, Int.reduceEq, List.length_map, hb]); all_goals fail_if_success guard_target =ₛ False)
        | with_reducible refine parVC_nil ?_
        | with_reducible refine parEVC_nil ?_
        | with_reducible refine genVC_nil ?_
        | (with_reducible refine AWP.cond (by with_unfolding_all rfl) (fun h => ?_) (fun h => ?_); all_goals (try simp only [Bool.not_eq_true', Bool.not_eq_false'] at h); (all_goals try first | (exact absurd h Bool.false_ne_true) | (exact absurd h.symm Bool.false_ne_true) | (exact absurd h (by decide))))
        | with_reducible refine AWP.skip ?_
        | with_reducible refine AWP.ret ?_
        | with_reducible refine AWP.block ?_
        | with_reducible refine AWP.exit ?_
        | (with_reducible refine ⟨fun h => ?_, fun h => ?_⟩ <;> (try simp only [Bool.not_eq_true', Bool.not_eq_false'] at h) <;> simp only [h, go_sem, Nat.reduceBEq, Nat.reduceBNe, Nat.reduceAdd, Nat.reduceSub, Nat.reduceMul, Nat.reduceLeDiff, Nat.reduceLT, reduceCtorEq, Nat.reduceEqDiff, Int.reduceToNat, Int.reduceLE, Int.reduceLT, Int.reduceEq, List.length_map, hb])
        | (with_reducible refine AWP.parR mixed (by kernel_rfl) fun K hK => ?_)
        | (with_reducible refine Or.inl ?_)
        | (simp only [go_sem, Nat.reduceBEq, Nat.reduceBNe, Nat.reduceAdd, Nat.reduceSub, Nat.reduceMul, Nat.reduceLeDiff, Nat.reduceLT, reduceCtorEq, Nat.reduceEqDiff, Int.reduceToNat, Int.reduceLE, Int.reduceLT, Int.reduceEq, List.length_map, hb])
        | (clear hK K))
      all_goals (refine fin0 ?_; simp only [listCmp, h0, hp, cond_true])

theorem cmpVals_c (g : FuncId) (f : Val → Val → Int) (a b : List Val) (hg : ∀ x ∈ a, ∀ y ∈ b, PC Try.prog g [T.st (encVal x), T.st (encVal y)] (I .i64 (f x y))) :
    PC Try.prog 124 [.one (.dat (.sl 7 (a.map encVal))), .one (.dat (.sl 7 (b.map encVal))), .one (.dat (.fn g))] (I .i64 (listCmp f a b)) := by
  refine PCB.of_body Try.func124 rfl (by decide) Try.ntmps124 Try.results124 rfl rfl rfl ?_ rfl rfl
  refine AWP.len 0 rfl fun hlen => ?_
  rw [List.length_map] at hlen
  cases h0 : decide (cmpI a.length b.length = 0) with
  | false =>
    repeat' (first
      | ((first | with_reducible refine seqVC_stepN rfl fun K hK => ?_ | with_reducible refine seqVC_stepG rfl (by with_unfolding_all rfl) fun K hK => ?_); (try simp only [go_sem, Nat.reduceBEq, Nat.reduceBNe, Nat.reduceAdd, Nat.reduceSub, Nat.reduceMul, Nat.reduceLeDiff, Nat.reduceLT, reduceCtorEq, Nat.reduceEqDiff, Int.reduceToNat, Int.reduceLE, Int.reduceLT, Int.reduceEq, List.length_map, h0]); all_goals fail_if_success guard_target =ₛ False)
      | with_reducible refine seqVC_nil ?_
      | (with_reducible refine hK _ _ _ ?_; clear hK K)
      | (with_reducible refine hK _ _ ?_; clear hK K)
      | (with_reducible refine hK _ ?_; clear hK K)
      | with_reducible refine AWP.seq fun K hK => ?_
      | (with_reducible refine AWP.seqR (by kernel_rfl) fun K hK => ?_)
      | ((first | with_reducible refine parVC_stepN rfl fun K hK => ?_ | with_reducible refine parVC_stepG rfl (by with_unfolding_all rfl) fun K hK => ?_ | with_reducible refine parEVC_stepN rfl fun K hK => ?_ | with_reducible refine parEVC_stepG rfl (by with_unfolding_all rfl) fun K hK => ?_ | with_reducible refine genVC_stepN rfl fun K hK => ?_ | with_reducible refine genVC_stepG rfl (by with_unfolding_all rfl) fun K hK => ?_); (try simp only [go_sem, Nat.reduceBEq, Nat.reduceBNe, Nat.reduceAdd, Nat.reduceSub, Nat.reduceMul, Nat.reduceLeDiff, Nat.reduceLT, reduceCtorEq, Nat.reduceEqDiff, Int.reduceToNat, Int.reduceLE, Int.reduceLT, Int.reduceEq, List.length_map, h0]); all_goals fail_if_success guard_target =ₛ False)
      | with_reducible refine parVC_nil ?_
      | with_reducible refine parEVC_nil ?_
      | with_reducible refine genVC_nil ?_
      | (with_reducible refine AWP.cond (by with_unfolding_all rfl) (fun h => ?_) (fun h => ?_); all_goals (try simp only [Bool.not_eq_true', Bool.not_eq_false'] at h); (all_goals try first | (exact absurd h Bool.false_ne_true) | (exact absurd h.symm Bool.false_ne_true) | (exact absurd h (by decide))))
      | with_reducible refine AWP.skip ?_
      | with_reducible refine AWP.ret ?_
      | with_reducible refine AWP.block ?_
      | with_reducible refine AWP.exit ?_
      | (with_reducible refine ⟨fun h => ?_, fun h => ?_⟩ <;> (try simp only [Bool.not_eq_true', Bool.not_eq_false'] at h) <;> simp only [h, go_sem, Nat.reduceBEq, Nat.reduceBNe, Nat.reduceAdd, Nat.reduceSub, Nat.reduceMul, Nat.reduceLeDiff, Nat.reduceLT, reduceCtorEq, Nat.reduceEqDiff, Int.reduceToNat, Int.reduceLE, Int.reduceLT, Int.reduceEq, List.length_map, h0])
      | ((first | (with_reducible refine ⟨_, cmpInt_c _ _, ?_⟩)); try simp only [go_sem, Nat.reduceBEq, Nat.reduceBNe, Nat.reduceAdd, Nat.reduceSub, Nat.reduceMul, Nat.reduceLeDiff, Nat.reduceLT, reduceCtorEq, Nat.reduceEqDiff, Int.reduceToNat, Int.reduceLE, Int.reduceLT, Int.reduceEq, List.length_map, h0])
      | (with_reducible refine AWP.parR mixed (by kernel_rfl) fun K hK => ?_)
      | (with_reducible refine Or.inl ?_)
      | (simp only [go_sem, Nat.reduceBEq, Nat.reduceBNe, Nat.reduceAdd, Nat.reduceSub, Nat.reduceMul, Nat.reduceLeDiff, Nat.reduceLT, reduceCtorEq, Nat.reduceEqDiff, Int.reduceToNat, Int.reduceLE, Int.reduceLT, Int.reduceEq, List.length_map, h0])
      | (clear hK K))
    all_goals (refine fin0 ?_; simp only [listCmp, h0, cond_false])
  | true =>
    have hl : a.length = b.length := by
      have := cmpI_zero.1 (of_decide_eq_true h0)
      omega
    repeat' (first
      | ((first | with_reducible refine seqVC_stepN rfl fun K hK => ?_ | with_reducible refine seqVC_stepG rfl (by with_unfolding_all rfl) fun K hK => ?_); (try simp only [go_sem, Nat.reduceBEq, Nat.reduceBNe, Nat.reduceAdd, Nat.reduceSub, Nat.reduceMul, Nat.reduceLeDiff, Nat.reduceLT, reduceCtorEq, Nat.reduceEqDiff, Int.reduceToNat, Int.reduceLE, Int.reduceLT, Int.reduceEq, List.length_map, h0]); all_goals fail_if_success guard_target =ₛ False)
      | with_reducible refine seqVC_nil ?_
      | (with_reducible refine hK _ _ _ ?_; clear hK K)
      | (with_reducible refine hK _ _ ?_; clear hK K)
      | (with_reducible refine hK _ ?_; clear hK K)
      | with_reducible refine AWP.seq fun K hK => ?_
      | (with_reducible refine AWP.seqR (by kernel_rfl) fun K hK => ?_)
      | ((first | with_reducible refine parVC_stepN rfl fun K hK => ?_ | with_reducible refine parVC_stepG rfl (by with_unfolding_all rfl) fun K hK => ?_ | with_reducible refine parEVC_stepN rfl fun K hK => ?_ | with_reducible refine parEVC_stepG rfl (by with_unfolding_all rfl) fun K hK => ?_ | with_reducible refine genVC_stepN rfl fun K hK => ?_ | with_reducible refine genVC_stepG rfl (by with_unfolding_all rfl) fun K hK => ?_); (try simp only [go_sem, Nat.reduceBEq, Nat.reduceBNe, Nat.reduceAdd, Nat.reduceSub, Nat.reduceMul, Nat.reduceLeDiff, Nat.reduceLT, reduceCtorEq, Nat.reduceEqDiff, Int.reduceToNat, Int.reduceLE, Int.reduceLT, Int.reduceEq, List.length_map, h0]); all_goals fail_if_success guard_target =ₛ False)
      | with_reducible refine parVC_nil ?_
      | with_reducible refine parEVC_nil ?_
      | with_reducible refine genVC_nil ?_
      | (with_reducible refine AWP.cond (by with_unfolding_all rfl) (fun h => ?_) (fun h => ?_); all_goals (try simp only [Bool.not_eq_true', Bool.not_eq_false'] at h); (all_goals try first | (exact absurd h Bool.false_ne_true) | (exact absurd h.symm Bool.false_ne_true) | (exact absurd h (by decide))))
      | with_reducible refine AWP.skip ?_
      | with_reducible refine AWP.ret ?_
      | with_reducible refine AWP.block ?_
      | with_reducible refine AWP.exit ?_
      | (with_reducible refine ⟨fun h => ?_, fun h => ?_⟩ <;> (try simp only [Bool.not_eq_true', Bool.not_eq_false'] at h) <;> simp only [h, go_sem, Nat.reduceBEq, Nat.reduceBNe, Nat.reduceAdd, Nat.reduceSub, Nat.reduceMul, Nat.reduceLeDiff, Nat.reduceLT, reduceCtorEq, Nat.reduceEqDiff, Int.reduceToNat, Int.reduceLE, Int.reduceLT, Int.reduceEq, List.length_map, h0])
      | ((first | (with_reducible refine ⟨_, cmpInt_c _ _, ?_⟩)); try simp only [go_sem, Nat.reduceBEq, Nat.reduceBNe, Nat.reduceAdd, Nat.reduceSub, Nat.reduceMul, Nat.reduceLeDiff, Nat.reduceLT, reduceCtorEq, Nat.reduceEqDiff, Int.reduceToNat, Int.reduceLE, Int.reduceLT, Int.reduceEq, List.length_map, h0])
      | (with_reducible refine AWP.parR mixed (by kernel_rfl) fun K hK => ?_)
      | (with_reducible refine Or.inl ?_)
      | (simp only [go_sem, Nat.reduceBEq, Nat.reduceBNe, Nat.reduceAdd, Nat.reduceSub, Nat.reduceMul, Nat.reduceLeDiff, Nat.reduceLT, reduceCtorEq, Nat.reduceEqDiff, Int.reduceToNat, Int.reduceLE, Int.reduceLT, Int.reduceEq, List.length_map, h0])
      | (clear hK K))
    refine AWP.loopS (X := Nat × Unit) (fun x => [(20, I .i64 x.1), (19, I .i64 a.length), (0, .one (.dat (.sl 7 (a.map encVal)))), (1, .one (.dat (.sl 7 (b.map encVal)))), (2, .one (.dat (.fn g)))]) (fun _ => [])
      (fun x => x.1 ≤ a.length ∧ firstC f a b = firstC f (a.drop x.1) (b.drop x.1)) (fun x => a.length - x.1) (0, ()) (Gh.to [] (by repeat (first | exact trivial | refine ⟨rfl, ?_⟩ | refine ⟨by (simp only [go_sem, Nat.reduceBEq, Nat.reduceBNe, Nat.reduceAdd, Nat.reduceSub, Nat.reduceMul, Nat.reduceLeDiff, Nat.reduceLT, reduceCtorEq, Nat.reduceEqDiff, Int.reduceToNat, Int.reduceLE, Int.reduceLT, Int.reduceEq]) <;> rfl, ?_⟩)) (by repeat (first | exact trivial | refine ⟨rfl, ?_⟩ | refine ⟨by (simp only [go_sem, Nat.reduceBEq, Nat.reduceBNe, Nat.reduceAdd, Nat.reduceSub, Nat.reduceMul, Nat.reduceLeDiff, Nat.reduceLT, reduceCtorEq, Nat.reduceEqDiff, Int.reduceToNat, Int.reduceLE, Int.reduceLT, Int.reduceEq]) <;> rfl, ?_⟩)) rfl rfl rfl) ⟨Nat.zero_le _, rfl⟩ ?_
    rintro ⟨k, u⟩ ⟨hk, hp⟩
    simp only at hk hp
    by_cases hlt : k < a.length
    · obtain ⟨x, hx, hx', hb, hdx⟩ := at_lt (enc := encVal) hlt
      obtain ⟨y, hy, hy', _, hdy⟩ := at_lt (enc := encVal) (show k < b.length by omega)
      rw [hdx, hdy, firstC] at hp
      have hgx := hg x (List.mem_of_getElem? hx) y (List.mem_of_getElem? hy)
      cases hz : decide (f x y = 0)
      ·
        repeat' (first
          | ((first | with_reducible refine seqVC_stepN rfl fun K hK => ?_ | with_reducible refine seqVC_stepG rfl (by with_unfolding_all rfl) fun K hK => ?_); (try simp only [go_sem, Nat.reduceBEq, Nat.reduceBNe, Nat.reduceAdd, Nat.reduceSub, Nat.reduceMul, Nat.reduceLeDiff, Nat.reduceLT, reduceCtorEq, Nat.reduceEqDiff, Int.reduceToNat, Int.reduceLE, Int.reduceLT, Int.reduceEq, List.length_map, hb, hz]); all_goals fail_if_success guard_target =ₛ False)
          | with_reducible refine seqVC_nil ?_
          | (with_reducible refine hK _ _ _ ?_; clear hK K)
          | (with_reducible refine hK _ _ ?_; clear hK K)
          | (with_reducible refine hK _ ?_; clear hK K)
          | with_reducible refine AWP.seq fun K hK => ?_
          | (with_reducible refine AWP.seqR (by kernel_rfl) fun K hK => ?_)
          | ((first | with_reducible refine parVC_stepN rfl fun K hK => ?_ | with_reducible refine parVC_stepG rfl (by with_unfolding_all rfl) fun K hK => ?_ | with_reducible refine parEVC_stepN rfl fun K hK => ?_ | with_reducible refine parEVC_stepG rfl (by with_unfolding_all rfl) fun K hK => ?_ | with_reducible refine genVC_stepN rfl fun K hK => ?_ | with_reducible refine genVC_stepG rfl (by with_unfolding_all rfl) fun K hK => ?_); (try simp only [go_sem, Nat.reduceBEq, Nat.reduceBNe, Nat.reduceAdd, Nat.reduceSub, Nat.reduceMul, Nat.reduceLeDiff, Nat.reduceLT, reduceCtorEq, Nat.reduceEqDiff, Int.reduceToNat, Int.reduceLE, Int.reduceLT, Int.reduceEq, List.length_map, hb, hz]); all_goals fail_if_success guard_target =ₛ False)
          | with_reducible refine parVC_nil ?_
          | with_reducible refine parEVC_nil ?_
          | with_reducible refine genVC_nil ?_
          | (with_reducible refine AWP.cond (by with_unfolding_all rfl) (fun h => ?_) (fun h => ?_); all_goals (try simp only [Bool.not_eq_true', Bool.not_eq_false'] at h); (all_goals try first | (exact absurd h Bool.false_ne_true) | (exact absurd h.symm Bool.false_ne_true) | (exact absurd h (by decide))))
          | with_reducible refine AWP.skip ?_
          | with_reducible refine AWP.ret ?_
          | with_reducible refine AWP.block ?_
          | with_reducible refine AWP.exit ?_
          | (with_reducible refine ⟨fun h => ?_, fun h => ?_⟩ <;> (try simp only [Bool.not_eq_true', Bool.not_eq_false'] at h) <;> simp only [h, go_sem, Nat.reduceBEq, Nat.reduceBNe, Nat.reduceAdd, Nat.reduceSub, Nat.reduceMul, Nat.reduceLeDiff, Nat.reduceLT, reduceCtorEq, Nat.reduceEqDiff, Int.reduceToNat, Int.reduceLE, Int.reduceLT, Int.reduceEq, List.length_map, hb, hz])
          | ((first | (with_reducible refine ⟨_, hgx, ?_⟩)); try simp only [go_sem, Nat.reduceBEq, Nat.reduceBNe, Nat.reduceAdd, Nat.reduceSub, Nat.reduceMul, Nat.reduceLeDiff, Nat.reduceLT, reduceCtorEq, Nat.reduceEqDiff, Int.reduceToNat, Int.reduceLE, Int.reduceLT, Int.reduceEq, List.length_map, hb, hz])
          | (with_reducible refine ⟨by omega, encVal x, hx', ?_⟩)
          | (with_reducible refine ⟨by omega, encVal y, hy', ?_⟩)
          | (with_reducible refine AWP.parR mixed (by kernel_rfl) fun K hK => ?_)
          | (with_reducible refine Or.inl ?_)
          | (simp only [go_sem, Nat.reduceBEq, Nat.reduceBNe, Nat.reduceAdd, Nat.reduceSub, Nat.reduceMul, Nat.reduceLeDiff, Nat.reduceLT, reduceCtorEq, Nat.reduceEqDiff, Int.reduceToNat, Int.reduceLE, Int.reduceLT, Int.reduceEq, List.length_map, hb, hz])
          | (clear hK K))
        all_goals (refine fin0 ?_; simp only [listCmp, h0, hp, hz, cond_true, cond_false])
      ·
        repeat' (first
          | ((first | with_reducible refine seqVC_stepN rfl fun K hK => ?_ | with_reducible refine seqVC_stepG rfl (by with_unfolding_all rfl) fun K hK => ?_); (try simp only [go_sem, Nat.reduceBEq, Nat.reduceBNe, Nat.reduceAdd, Nat.reduceSub, Nat.reduceMul, Nat.reduceLeDiff, Nat.reduceLT, reduceCtorEq, Nat.reduceEqDiff, Int.reduceToNat, Int.reduceLE, Int.reduceLT, Int.reduceEq, List.length_map, hb, hz]); all_goals fail_if_success guard_target =ₛ False)
          | with_reducible refine seqVC_nil ?_
          | (with_reducible refine hK _ _ _ ?_; clear hK K)
          | (with_reducible refine hK _ _ ?_; clear hK K)
          | (with_reducible refine hK _ ?_; clear hK K)
          | with_reducible refine AWP.seq fun K hK => ?_
          | (with_reducible refine AWP.seqR (by kernel_rfl) fun K hK => ?_)
          | ((first | with_reducible refine parVC_stepN rfl fun K hK => ?_ | with_reducible refine parVC_stepG rfl (by with_unfolding_all rfl) fun K hK => ?_ | with_reducible refine parEVC_stepN rfl fun K hK => ?_ | with_reducible refine parEVC_stepG rfl (by with_unfolding_all rfl) fun K hK => ?_ | with_reducible refine genVC_stepN rfl fun K hK => ?_ | with_reducible refine genVC_stepG rfl (by with_unfolding_all rfl) fun K hK => ?_); (try simp only [go_sem, Nat.reduceBEq, Nat.reduceBNe, Nat.reduceAdd, Nat.reduceSub, Nat.reduceMul, Nat.reduceLeDiff, Nat.reduceLT, reduceCtorEq, Nat.reduceEqDiff, Int.reduceToNat, Int.reduceLE, Int.reduceLT, Int.reduceEq, List.length_map, hb, hz]); all_goals fail_if_success guard_target =ₛ False)
          | with_reducible refine parVC_nil ?_
          | with_reducible refine parEVC_nil ?_
          | with_reducible refine genVC_nil ?_
          | (with_reducible refine AWP.cond (by with_unfolding_all rfl) (fun h => ?_) (fun h => ?_); all_goals (try simp only [Bool.not_eq_true', Bool.not_eq_false'] at h); (all_goals try first | (exact absurd h Bool.false_ne_true) | (exact absurd h.symm Bool.false_ne_true) | (exact absurd h (by decide))))
          | with_reducible refine AWP.skip ?_
          | with_reducible refine AWP.ret ?_
          | with_reducible refine AWP.block ?_
          | with_reducible refine AWP.exit ?_
          | (with_reducible refine ⟨fun h => ?_, fun h => ?_⟩ <;> (try simp only [Bool.not_eq_true', Bool.not_eq_false'] at h) <;> simp only [h, go_sem, Nat.reduceBEq, Nat.reduceBNe, Nat.reduceAdd, Nat.reduceSub, Nat.reduceMul, Nat.reduceLeDiff, Nat.reduceLT, reduceCtorEq, Nat.reduceEqDiff, Int.reduceToNat, Int.reduceLE, Int.reduceLT, Int.reduceEq, List.length_map, hb, hz])
          | ((first | (with_reducible refine ⟨_, hgx, ?_⟩)); try simp only [go_sem, Nat.reduceBEq, Nat.reduceBNe, Nat.reduceAdd, Nat.reduceSub, Nat.reduceMul, Nat.reduceLeDiff, Nat.reduceLT, reduceCtorEq, Nat.reduceEqDiff, Int.reduceToNat, Int.reduceLE, Int.reduceLT, Int.reduceEq, List.length_map, hb, hz])
          | (with_reducible refine ⟨by omega, encVal x, hx', ?_⟩)
          | (with_reducible refine ⟨by omega, encVal y, hy', ?_⟩)
          | (with_reducible refine AWP.parR mixed (by kernel_rfl) fun K hK => ?_)
          | (with_reducible refine Or.inl ?_)
          | (simp only [go_sem, Nat.reduceBEq, Nat.reduceBNe, Nat.reduceAdd, Nat.reduceSub, Nat.reduceMul, Nat.reduceLeDiff, Nat.reduceLT, reduceCtorEq, Nat.reduceEqDiff, Int.reduceToNat, Int.reduceLE, Int.reduceLT, Int.reduceEq, List.length_map, hb, hz])
          | (clear hK K))
        all_goals (rw [hz, cond_true] at hp)
        all_goals (rw [wrap_succ hlt hlen])
        all_goals (refine ⟨(k + 1, ()), by simp only; omega, ⟨by simp only; omega, hp⟩, Gh.to [] (by repeat (first | exact trivial | refine ⟨rfl, ?_⟩ | refine ⟨by (simp only [go_sem, Nat.reduceBEq, Nat.reduceBNe, Nat.reduceAdd, Nat.reduceSub, Nat.reduceMul, Nat.reduceLeDiff, Nat.reduceLT, reduceCtorEq, Nat.reduceEqDiff, Int.reduceToNat, Int.reduceLE, Int.reduceLT, Int.reduceEq]) <;> rfl, ?_⟩)) (by repeat (first | exact trivial | refine ⟨rfl, ?_⟩ | refine ⟨by (simp only [go_sem, Nat.reduceBEq, Nat.reduceBNe, Nat.reduceAdd, Nat.reduceSub, Nat.reduceMul, Nat.reduceLeDiff, Nat.reduceLT, reduceCtorEq, Nat.reduceEqDiff, Int.reduceToNat, Int.reduceLE, Int.reduceLT, Int.reduceEq]) <;> rfl, ?_⟩)) rfl rfl rfl⟩)
    · have hb : decide ((k : Int) < (a.length : Int)) = false := by simpa using hlt
      rw [List.drop_eq_nil_of_le (show a.length ≤ k by omega), firstC_nil] at hp
      repeat' (first
        | ((first | with_reducible refine seqVC_stepN rfl fun K hK => ?_ | with_reducible refine seqVC_stepG rfl (by with_unfolding_all rfl) fun K hK => ?_); (try simp only [go_sem, Nat.reduceBEq, Nat.reduceBNe, Nat.reduceAdd, Nat.reduceSub, Nat.reduceMul, Nat.reduceLeDiff, Nat.reduceLT, reduceCtorEq, Nat.reduceEqDiff, Int.reduceToNat, Int.reduceLE, Int.reduceLT, Int.reduceEq, List.length_map, hb]); all_goals fail_if_success guard_target =ₛ False)
        | with_reducible refine seqVC_nil ?_
        | (with_reducible refine hK _ _ _ ?_; clear hK K)
        | (with_reducible refine hK _ _ ?_; clear hK K)
        | (with_reducible refine hK _ ?_; clear hK K)
        | with_reducible refine AWP.seq fun K hK => ?_
        | (with_reducible refine AWP.seqR (by kernel_rfl) fun K hK => ?_)
        | ((first | with_reducible refine parVC_stepN rfl fun K hK => ?_ | with_reducible refine parVC_stepG rfl (by with_unfolding_all rfl) fun K hK => ?_ | with_reducible refine parEVC_stepN rfl fun K hK => ?_ | with_reducible refine parEVC_stepG rfl (by with_unfolding_all rfl) fun K hK => ?_ | with_reducible refine genVC_stepN rfl fun K hK => ?_ | with_reducible refine genVC_stepG rfl (by with_unfolding_all rfl) fun K hK => ?_); (try simp only [go_sem, Nat.reduceBEq, Nat.reduceBNe, Nat.reduceAdd, Nat.reduceSub, Nat.reduceMul, Nat.reduceLeDiff, Nat.reduceLT, reduceCtorEq, Nat.reduceEqDiff, Int.reduceToNat, Int.reduceLE, Int.reduceLT, Int.reduceEq, List.length_map, hb]); all_goals fail_if_success guard_target =ₛ False)
        | with_reducible refine parVC_nil ?_
        | with_reducible refine parEVC_nil ?_
        | with_reducible refine genVC_nil ?_
        | (with_reducible refine AWP.cond (by with_unfolding_all rfl) (fun h => ?_) (fun h => ?_); all_goals (try simp only [Bool.not_eq_true', Bool.not_eq_false'] at h); (all_goals try first | (exact absurd h Bool.false_ne_true) | (exact absurd h.symm Bool.false_ne_true) | (exact absurd h (by decide))))
        | with_reducible refine AWP.skip ?_
        | with_reducible refine AWP.ret ?_
        | with_reducible refine AWP.block ?_
        | with_reducible refine AWP.exit ?_
        | (with_reducible refine ⟨fun h => ?_, fun h => ?_⟩ <;> (try simp only [Bool.not_eq_true', Bool.not_eq_false'] at h) <;> simp only [h, go_sem, Nat.reduceBEq, Nat.reduceBNe, Nat.reduceAdd, Nat.reduceSub, Nat.reduceMul, Nat.reduceLeDiff, Nat.reduceLT, reduceCtorEq, Nat.reduceEqDiff, Int.reduceToNat, Int.reduceLE, Int.reduceLT, Int.reduceEq, List.length_map, hb])
        | (with_reducible refine AWP.parR mixed (by kernel_rfl) fun K hK => ?_)
        | (with_reducible refine Or.inl ?_)
        | (simp only [go_sem, Nat.reduceBEq, Nat.reduceBNe, Nat.reduceAdd, Nat.reduceSub, Nat.reduceMul, Nat.reduceLeDiff, Nat.reduceLT, reduceCtorEq, Nat.reduceEqDiff, Int.reduceToNat, Int.reduceLE, Int.reduceLT, Int.reduceEq, List.length_map, hb])
        | (clear hK K))
      all_goals (refine fin0 ?_; simp only [listCmp, h0, hp, cond_true])

theorem cmpEnts_c (g : FuncId) (f : (List Val × Bool × Val) → (List Val × Bool × Val) → Int) (a b : List (List Val × Bool × Val)) (hg : ∀ x ∈ a, ∀ y ∈ b, PC Try.prog g [T.st (encEnt x), T.st (encEnt y)] (I .i64 (f x y))) :
    PC Try.prog 99 [.one (.dat (.sl 9 (a.map encEnt))), .one (.dat (.sl 9 (b.map encEnt))), .one (.dat (.fn g))] (I .i64 (listCmp f a b)) := by
  refine PCB.of_body Try.func99 rfl (by decide) Try.ntmps99 Try.results99 rfl rfl rfl ?_ rfl rfl
  refine AWP.len 0 rfl fun hlen => ?_
  rw [List.length_map] at hlen
  cases h0 : decide (cmpI a.length b.length = 0) with
  | false =>
    repeat' (first
      | ((first | with_reducible refine seqVC_stepN rfl fun K hK => ?_ | with_reducible refine seqVC_stepG rfl (by with_unfolding_all rfl) fun K hK => ?_); (try simp only [go_sem, Nat.reduceBEq, Nat.reduceBNe, Nat.reduceAdd, Nat.reduceSub, Nat.reduceMul, Nat.reduceLeDiff, Nat.reduceLT, reduceCtorEq, Nat.reduceEqDiff, Int.reduceToNat, Int.reduceLE, Int.reduceLT, Int.reduceEq, List.length_map, h0]); all_goals fail_if_success guard_target =ₛ False)
      | with_reducible refine seqVC_nil ?_
      | (with_reducible refine hK _ _ _ ?_; clear hK K)
      | (with_reducible refine hK _ _ ?_; clear hK K)
      | (with_reducible refine hK _ ?_; clear hK K)
      | with_reducible refine AWP.seq fun K hK => ?_
      | (with_reducible refine AWP.seqR (by kernel_rfl) fun K hK => ?_)
      | ((first | with_reducible refine parVC_stepN rfl fun K hK => ?_ | with_reducible refine parVC_stepG rfl (by with_unfolding_all rfl) fun K hK => ?_ | with_reducible refine parEVC_stepN rfl fun K hK => ?_ | with_reducible refine parEVC_stepG rfl (by with_unfolding_all rfl) fun K hK => ?_ | with_reducible refine genVC_stepN rfl fun K hK => ?_ | with_reducible refine genVC_stepG rfl (by with_unfolding_all rfl) fun K hK => ?_); (try simp only [go_sem, Nat.reduceBEq, Nat.reduceBNe, Nat.reduceAdd, Nat.reduceSub, Nat.reduceMul, Nat.reduceLeDiff, Nat.reduceLT, reduceCtorEq, Nat.reduceEqDiff, Int.reduceToNat, Int.reduceLE, Int.reduceLT, Int.reduceEq, List.length_map, h0]); all_goals fail_if_success guard_target =ₛ False)
      | with_reducible refine parVC_nil ?_
      | with_reducible refine parEVC_nil ?_
      | with_reducible refine genVC_nil ?_
      | (with_reducible refine AWP.cond (by with_unfolding_all rfl) (fun h => ?_) (fun h => ?_); all_goals (try simp only [Bool.not_eq_true', Bool.not_eq_false'] at h); (all_goals try first | (exact absurd h Bool.false_ne_true) | (exact absurd h.symm Bool.false_ne_true) | (exact absurd h (by decide))))
      | with_reducible refine AWP.skip ?_
      | with_reducible refine AWP.ret ?_
      | with_reducible refine AWP.block ?_
      | with_reducible refine AWP.exit ?_
      | (with_reducible refine ⟨fun h => ?_, fun h => ?_⟩ <;> (try simp only [Bool.not_eq_true', Bool.not_eq_false'] at h) <;> simp only [h, go_sem, Nat.reduceBEq, Nat.reduceBNe, Nat.reduceAdd, Nat.reduceSub, Nat.reduceMul, Nat.reduceLeDiff, Nat.reduceLT, reduceCtorEq, Nat.reduceEqDiff, Int.reduceToNat, Int.reduceLE, Int.reduceLT, Int.reduceEq, List.length_map, h0])
      | ((first | (with_reducible refine ⟨_, cmpInt_c _ _, ?_⟩)); try simp only [go_sem, Nat.reduceBEq, Nat.reduceBNe, Nat.reduceAdd, Nat.reduceSub, Nat.reduceMul, Nat.reduceLeDiff, Nat.reduceLT, reduceCtorEq, Nat.reduceEqDiff, Int.reduceToNat, Int.reduceLE, Int.reduceLT, Int.reduceEq, List.length_map, h0])
      | (with_reducible refine AWP.parR mixed (by kernel_rfl) fun K hK => ?_)
      | (with_reducible refine Or.inl ?_)
      | (simp only [go_sem, Nat.reduceBEq, Nat.reduceBNe, Nat.reduceAdd, Nat.reduceSub, Nat.reduceMul, Nat.reduceLeDiff, Nat.reduceLT, reduceCtorEq, Nat.reduceEqDiff, Int.reduceToNat, Int.reduceLE, Int.reduceLT, Int.reduceEq, List.length_map, h0])
      | (clear hK K))
    all_goals (refine fin0 ?_; simp only [listCmp, h0, cond_false])
  | true =>
    have hl : a.length = b.length := by
      have := cmpI_zero.1 (of_decide_eq_true h0)
      omega
    repeat' (first
      | ((first | with_reducible refine seqVC_stepN rfl fun K hK => ?_ | with_reducible refine seqVC_stepG rfl (by with_unfolding_all rfl) fun K hK => ?_); (try simp only [go_sem, Nat.reduceBEq, Nat.reduceBNe, Nat.reduceAdd, Nat.reduceSub, Nat.reduceMul, Nat.reduceLeDiff, Nat.reduceLT, reduceCtorEq, Nat.reduceEqDiff, Int.reduceToNat, Int.reduceLE, Int.reduceLT, Int.reduceEq, List.length_map, h0]); all_goals fail_if_success guard_target =ₛ False)
      | with_reducible refine seqVC_nil ?_
      | (with_reducible refine hK _ _ _ ?_; clear hK K)
      | (with_reducible refine hK _ _ ?_; clear hK K)
      | (with_reducible refine hK _ ?_; clear hK K)
      | with_reducible refine AWP.seq fun K hK => ?_
      | (with_reducible refine AWP.seqR (by kernel_rfl) fun K hK => ?_)
      | ((first | with_reducible refine parVC_stepN rfl fun K hK => ?_ | with_reducible refine parVC_stepG rfl (by with_unfolding_all rfl) fun K hK => ?_ | with_reducible refine parEVC_stepN rfl fun K hK => ?_ | with_reducible refine parEVC_stepG rfl (by with_unfolding_all rfl) fun K hK => ?_ | with_reducible refine genVC_stepN rfl fun K hK => ?_ | with_reducible refine genVC_stepG rfl (by with_unfolding_all rfl) fun K hK => ?_); (try simp only [go_sem, Nat.reduceBEq, Nat.reduceBNe, Nat.reduceAdd, Nat.reduceSub, Nat.reduceMul, Nat.reduceLeDiff, Nat.reduceLT, reduceCtorEq, Nat.reduceEqDiff, Int.reduceToNat, Int.reduceLE, Int.reduceLT, Int.reduceEq, List.length_map, h0]); all_goals fail_if_success guard_target =ₛ False)
      | with_reducible refine parVC_nil ?_
      | with_reducible refine parEVC_nil ?_
      | with_reducible refine genVC_nil ?_
      | (with_reducible refine AWP.cond (by with_unfolding_all rfl) (fun h => ?_) (fun h => ?_); all_goals (try simp only [Bool.not_eq_true', Bool.not_eq_false'] at h); (all_goals try first | (exact absurd h Bool.false_ne_true) | (exact absurd h.symm Bool.false_ne_true) | (exact absurd h (by decide))))
      | with_reducible refine AWP.skip ?_
      | with_reducible refine AWP.ret ?_
      | with_reducible refine AWP.block ?_
      | with_reducible refine AWP.exit ?_
      | (with_reducible refine ⟨fun h => ?_, fun h => ?_⟩ <;> (try simp only [Bool.not_eq_true', Bool.not_eq_false'] at h) <;> simp only [h, go_sem, Nat.reduceBEq, Nat.reduceBNe, Nat.reduceAdd, Nat.reduceSub, Nat.reduceMul, Nat.reduceLeDiff, Nat.reduceLT, reduceCtorEq, Nat.reduceEqDiff, Int.reduceToNat, Int.reduceLE, Int.reduceLT, Int.reduceEq, List.length_map, h0])
      | ((first | (with_reducible refine ⟨_, cmpInt_c _ _, ?_⟩)); try simp only [go_sem, Nat.reduceBEq, Nat.reduceBNe, Nat.reduceAdd, Nat.reduceSub, Nat.reduceMul, Nat.reduceLeDiff, Nat.reduceLT, reduceCtorEq, Nat.reduceEqDiff, Int.reduceToNat, Int.reduceLE, Int.reduceLT, Int.reduceEq, List.length_map, h0])
      | (with_reducible refine AWP.parR mixed (by kernel_rfl) fun K hK => ?_)
      | (with_reducible refine Or.inl ?_)
      | (simp only [go_sem, Nat.reduceBEq, Nat.reduceBNe, Nat.reduceAdd, Nat.reduceSub, Nat.reduceMul, Nat.reduceLeDiff, Nat.reduceLT, reduceCtorEq, Nat.reduceEqDiff, Int.reduceToNat, Int.reduceLE, Int.reduceLT, Int.reduceEq, List.length_map, h0])
      | (clear hK K))
    refine AWP.loopS (X := Nat × Unit) (fun x => [(20, I .i64 x.1), (19, I .i64 a.length), (0, .one (.dat (.sl 9 (a.map encEnt)))), (1, .one (.dat (.sl 9 (b.map encEnt)))), (2, .one (.dat (.fn g)))]) (fun _ => [])
      (fun x => x.1 ≤ a.length ∧ firstC f a b = firstC f (a.drop x.1) (b.drop x.1)) (fun x => a.length - x.1) (0, ()) (Gh.to [] (by repeat (first | exact trivial | refine ⟨rfl, ?_⟩ | refine ⟨by (simp only [go_sem, Nat.reduceBEq, Nat.reduceBNe, Nat.reduceAdd, Nat.reduceSub, Nat.reduceMul, Nat.reduceLeDiff, Nat.reduceLT, reduceCtorEq, Nat.reduceEqDiff, Int.reduceToNat, Int.reduceLE, Int.reduceLT, Int.reduceEq]) <;> rfl, ?_⟩)) (by repeat (first | exact trivial | refine ⟨rfl, ?_⟩ | refine ⟨by (simp only [go_sem, Nat.reduceBEq, Nat.reduceBNe, Nat.reduceAdd, Nat.reduceSub, Nat.reduceMul, Nat.reduceLeDiff, Nat.reduceLT, reduceCtorEq, Nat.reduceEqDiff, Int.reduceToNat, Int.reduceLE, Int.reduceLT, Int.reduceEq]) <;> rfl, ?_⟩)) rfl rfl rfl) ⟨Nat.zero_le _, rfl⟩ ?_
    rintro ⟨k, u⟩ ⟨hk, hp⟩
    simp only at hk hp
    by_cases hlt : k < a.length
    · obtain ⟨x, hx, hx', hb, hdx⟩ := at_lt (enc := encEnt) hlt
      obtain ⟨y, hy, hy', _, hdy⟩ := at_lt (enc := encEnt) (show k < b.length by omega)
      rw [hdx, hdy, firstC] at hp
      have hgx := hg x (List.mem_of_getElem? hx) y (List.mem_of_getElem? hy)
      cases hz : decide (f x y = 0)
      ·
        repeat' (first
          | ((first | with_reducible refine seqVC_stepN rfl fun K hK => ?_ | with_reducible refine seqVC_stepG rfl (by with_unfolding_all rfl) fun K hK => ?_); (try simp only [go_sem, Nat.reduceBEq, Nat.reduceBNe, Nat.reduceAdd, Nat.reduceSub, Nat.reduceMul, Nat.reduceLeDiff, Nat.reduceLT, reduceCtorEq, Nat.reduceEqDiff, Int.reduceToNat, Int.reduceLE, Int.reduceLT, Int.reduceEq, List.length_map, hb, hz]); all_goals fail_if_success guard_target =ₛ False)
          | with_reducible refine seqVC_nil ?_
          | (with_reducible refine hK _ _ _ ?_; clear hK K)
          | (with_reducible refine hK _ _ ?_; clear hK K)
          | (with_reducible refine hK _ ?_; clear hK K)
          | with_reducible refine AWP.seq fun K hK => ?_
          | (with_reducible refine AWP.seqR (by kernel_rfl) fun K hK => ?_)
          | ((first | with_reducible refine parVC_stepN rfl fun K hK => ?_ | with_reducible refine parVC_stepG rfl (by with_unfolding_all rfl) fun K hK => ?_ | with_reducible refine parEVC_stepN rfl fun K hK => ?_ | with_reducible refine parEVC_stepG rfl (by with_unfolding_all rfl) fun K hK => ?_ | with_reducible refine genVC_stepN rfl fun K hK => ?_ | with_reducible refine genVC_stepG rfl (by with_unfolding_all rfl) fun K hK => ?_); (try simp only [go_sem, Nat.reduceBEq, Nat.reduceBNe, Nat.reduceAdd, Nat.reduceSub, Nat.reduceMul, Nat.reduceLeDiff, Nat.reduceLT, reduceCtorEq, Nat.reduceEqDiff, Int.reduceToNat, Int.reduceLE, Int.reduceLT, Int.reduceEq, List.length_map, hb, hz]); all_goals fail_if_success guard_target =ₛ False)
          | with_reducible refine parVC_nil ?_
          | with_reducible refine parEVC_nil ?_
          | with_reducible refine genVC_nil ?_
          | (with_reducible refine AWP.cond (by with_unfolding_all rfl) (fun h => ?_) (fun h => ?_); all_goals (try simp only [Bool.not_eq_true', Bool.not_eq_false'] at h); (all_goals try first | (exact absurd h Bool.false_ne_true) | (exact absurd h.symm Bool.false_ne_true) | (exact absurd h (by decide))))
          | with_reducible refine AWP.skip ?_
          | with_reducible refine AWP.ret ?_
          | with_reducible refine AWP.block ?_
          | with_reducible refine AWP.exit ?_
          | (with_reducible refine ⟨fun h => ?_, fun h => ?_⟩ <;> (try simp only [Bool.not_eq_true', Bool.not_eq_false'] at h) <;> simp only [h, go_sem, Nat.reduceBEq, Nat.reduceBNe, Nat.reduceAdd, Nat.reduceSub, Nat.reduceMul, Nat.reduceLeDiff, Nat.reduceLT, reduceCtorEq, Nat.reduceEqDiff, Int.reduceToNat, Int.reduceLE, Int.reduceLT, Int.reduceEq, List.length_map, hb, hz])
          | ((first | (with_reducible refine ⟨_, hgx, ?_⟩)); try simp only [go_sem, Nat.reduceBEq, Nat.reduceBNe, Nat.reduceAdd, Nat.reduceSub, Nat.reduceMul, Nat.reduceLeDiff, Nat.reduceLT, reduceCtorEq, Nat.reduceEqDiff, Int.reduceToNat, Int.reduceLE, Int.reduceLT, Int.reduceEq, List.length_map, hb, hz])
          | (with_reducible refine ⟨by omega, encEnt x, hx', ?_⟩)
          | (with_reducible refine ⟨by omega, encEnt y, hy', ?_⟩)
          | (with_reducible refine AWP.parR mixed (by kernel_rfl) fun K hK => ?_)
          | (with_reducible refine Or.inl ?_)
          | (simp only [go_sem, Nat.reduceBEq, Nat.reduceBNe, Nat.reduceAdd, Nat.reduceSub, Nat.reduceMul, Nat.reduceLeDiff, Nat.reduceLT, reduceCtorEq, Nat.reduceEqDiff, Int.reduceToNat, Int.reduceLE, Int.reduceLT, Int.reduceEq, List.length_map, hb, hz])
          | (clear hK K))
        all_goals (refine fin0 ?_; simp only [listCmp, h0, hp, hz, cond_true, cond_false])
      ·
        repeat' (first
          | ((first | with_reducible refine seqVC_stepN rfl fun K hK => ?_ | with_reducible refine seqVC_stepG rfl (by with_unfolding_all rfl) fun K hK => ?_); (try simp only [go_sem, Nat.reduceBEq, Nat.reduceBNe, Nat.reduceAdd, Nat.reduceSub, Nat.reduceMul, Nat.reduceLeDiff, Nat.reduceLT, reduceCtorEq, Nat.reduceEqDiff, Int.reduceToNat, Int.reduceLE, Int.reduceLT, Int.reduceEq, List.length_map, hb, hz]); all_goals fail_if_success guard_target =ₛ False)
          | with_reducible refine seqVC_nil ?_
          | (with_reducible refine hK _ _ _ ?_; clear hK K)
          | (with_reducible refine hK _ _ ?_; clear hK K)
          | (with_reducible refine hK _ ?_; clear hK K)
          | with_reducible refine AWP.seq fun K hK => ?_
          | (with_reducible refine AWP.seqR (by kernel_rfl) fun K hK => ?_)
          | ((first | with_reducible refine parVC_stepN rfl fun K hK => ?_ | with_reducible refine parVC_stepG rfl (by with_unfolding_all rfl) fun K hK => ?_ | with_reducible refine parEVC_stepN rfl fun K hK => ?_ | with_reducible refine parEVC_stepG rfl (by with_unfolding_all rfl) fun K hK => ?_ | with_reducible refine genVC_stepN rfl fun K hK => ?_ | with_reducible refine genVC_stepG rfl (by with_unfolding_all rfl) fun K hK => ?_); (try simp only [go_sem, Nat.reduceBEq, Nat.reduceBNe, Nat.reduceAdd, Nat.reduceSub, Nat.reduceMul, Nat.reduceLeDiff, Nat.reduceLT, reduceCtorEq, Nat.reduceEqDiff, Int.reduceToNat, Int.reduceLE, Int.reduceLT, Int.reduceEq, List.length_map, hb, hz]); all_goals fail_if_success guard_target =ₛ False)
          | with_reducible refine parVC_nil ?_
          | with_reducible refine parEVC_nil ?_
          | with_reducible refine genVC_nil ?_
          | (with_reducible refine AWP.cond (by with_unfolding_all rfl) (fun h => ?_) (fun h => ?_); all_goals (try simp only [Bool.not_eq_true', Bool.not_eq_false'] at h); (all_goals try first | (exact absurd h Bool.false_ne_true) | (exact absurd h.symm Bool.false_ne_true) | (exact absurd h (by decide))))
          | with_reducible refine AWP.skip ?_
          | with_reducible refine AWP.ret ?_
          | with_reducible refine AWP.block ?_
          | with_reducible refine AWP.exit ?_
          | (with_reducible refine ⟨fun h => ?_, fun h => ?_⟩ <;> (try simp only [Bool.not_eq_true', Bool.not_eq_false'] at h) <;> simp only [h, go_sem, Nat.reduceBEq, Nat.reduceBNe, Nat.reduceAdd, Nat.reduceSub, Nat.reduceMul, Nat.reduceLeDiff, Nat.reduceLT, reduceCtorEq, Nat.reduceEqDiff, Int.reduceToNat, Int.reduceLE, Int.reduceLT, Int.reduceEq, List.length_map, hb, hz])
          | ((first | (with_reducible refine ⟨_, hgx, ?_⟩)); try simp only [go_sem, Nat.reduceBEq, Nat.reduceBNe, Nat.reduceAdd, Nat.reduceSub, Nat.reduceMul, Nat.reduceLeDiff, Nat.reduceLT, reduceCtorEq, Nat.reduceEqDiff, Int.reduceToNat, Int.reduceLE, Int.reduceLT, Int.reduceEq, List.length_map, hb, hz])
          | (with_reducible refine ⟨by omega, encEnt x, hx', ?_⟩)
          | (with_reducible refine ⟨by omega, encEnt y, hy', ?_⟩)
          | (with_reducible refine AWP.parR mixed (by kernel_rfl) fun K hK => ?_)
          | (with_reducible refine Or.inl ?_)
          | (simp only [go_sem, Nat.reduceBEq, Nat.reduceBNe, Nat.reduceAdd, Nat.reduceSub, Nat.reduceMul, Nat.reduceLeDiff, Nat.reduceLT, reduceCtorEq, Nat.reduceEqDiff, Int.reduceToNat, Int.reduceLE, Int.reduceLT, Int.reduceEq, List.length_map, hb, hz])
          | (clear hK K))
        all_goals (rw [hz, cond_true] at hp)
        all_goals (rw [wrap_succ hlt hlen])
        all_goals (refine ⟨(k + 1, ()), by simp only; omega, ⟨by simp only; omega, hp⟩, Gh.to [] (by repeat (first | exact trivial | refine ⟨rfl, ?_⟩ | refine ⟨by (simp only [go_sem, Nat.reduceBEq, Nat.reduceBNe, Nat.reduceAdd, Nat.reduceSub, Nat.reduceMul, Nat.reduceLeDiff, Nat.reduceLT, reduceCtorEq, Nat.reduceEqDiff, Int.reduceToNat, Int.reduceLE, Int.reduceLT, Int.reduceEq]) <;> rfl, ?_⟩)) (by repeat (first | exact trivial | refine ⟨rfl, ?_⟩ | refine ⟨by (simp only [go_sem, Nat.reduceBEq, Nat.reduceBNe, Nat.reduceAdd, Nat.reduceSub, Nat.reduceMul, Nat.reduceLeDiff, Nat.reduceLT, reduceCtorEq, Nat.reduceEqDiff, Int.reduceToNat, Int.reduceLE, Int.reduceLT, Int.reduceEq]) <;> rfl, ?_⟩)) rfl rfl rfl⟩)
    · have hb : decide ((k : Int) < (a.length : Int)) = false := by simpa using hlt
      rw [List.drop_eq_nil_of_le (show a.length ≤ k by omega), firstC_nil] at hp
      repeat' (first
        | ((first | with_reducible refine seqVC_stepN rfl fun K hK => ?_ | with_reducible refine seqVC_stepG rfl (by with_unfolding_all rfl) fun K hK => ?_); (try simp only [go_sem, Nat.reduceBEq, Nat.reduceBNe, Nat.reduceAdd, Nat.reduceSub, Nat.reduceMul, Nat.reduceLeDiff, Nat.reduceLT, reduceCtorEq, Nat.reduceEqDiff, Int.reduceToNat, Int.reduceLE, Int.reduceLT, Int.reduceEq, List.length_map, hb]); all_goals fail_if_success guard_target =ₛ False)
        | with_reducible refine seqVC_nil ?_
        | (with_reducible refine hK _ _ _ ?_; clear hK K)
        | (with_reducible refine hK _ _ ?_; clear hK K)
        | (with_reducible refine hK _ ?_; clear hK K)
        | with_reducible refine AWP.seq fun K hK => ?_
        | (with_reducible refine AWP.seqR (by kernel_rfl) fun K hK => ?_)
        | ((first | with_reducible refine parVC_stepN rfl fun K hK => ?_ | with_reducible refine parVC_stepG rfl (by with_unfolding_all rfl) fun K hK => ?_ | with_reducible refine parEVC_stepN rfl fun K hK => ?_ | with_reducible refine parEVC_stepG rfl (by with_unfolding_all rfl) fun K hK => ?_ | with_reducible refine genVC_stepN rfl fun K hK => ?_ | with_reducible refine genVC_stepG rfl (by with_unfolding_all rfl) fun K hK => ?_); (try simp only [go_sem, Nat.reduceBEq, Nat.reduceBNe, Nat.reduceAdd, Nat.reduceSub, Nat.reduceMul, Nat.reduceLeDiff, Nat.reduceLT, reduceCtorEq, Nat.reduceEqDiff, Int.reduceToNat, Int.reduceLE, Int.reduceLT, Int.reduceEq, List.length_map, hb]); all_goals fail_if_success guard_target =ₛ False)
        | with_reducible refine parVC_nil ?_
        | with_reducible refine parEVC_nil ?_
        | with_reducible refine genVC_nil ?_
        | (with_reducible refine AWP.cond (by with_unfolding_all rfl) (fun h => ?_) (fun h => ?_); all_goals (try simp only [Bool.not_eq_true', Bool.not_eq_false'] at h); (all_goals try first | (exact absurd h Bool.false_ne_true) | (exact absurd h.symm Bool.false_ne_true) | (exact absurd h (by decide))))
        | with_reducible refine AWP.skip ?_
        | with_reducible refine AWP.ret ?_
        | with_reducible refine AWP.block ?_
        | with_reducible refine AWP.exit ?_
        | (with_reducible refine ⟨fun h => ?_, fun h => ?_⟩ <;> (try simp only [Bool.not_eq_true', Bool.not_eq_false'] at h) <;> simp only [h, go_sem, Nat.reduceBEq, Nat.reduceBNe, Nat.reduceAdd, Nat.reduceSub, Nat.reduceMul, Nat.reduceLeDiff, Nat.reduceLT, reduceCtorEq, Nat.reduceEqDiff, Int.reduceToNat, Int.reduceLE, Int.reduceLT, Int.reduceEq, List.length_map, hb])
        | (with_reducible refine AWP.parR mixed (by kernel_rfl) fun K hK => ?_)
        | (with_reducible refine Or.inl ?_)
        | (simp only [go_sem, Nat.reduceBEq, Nat.reduceBNe, Nat.reduceAdd, Nat.reduceSub, Nat.reduceMul, Nat.reduceLeDiff, Nat.reduceLT, reduceCtorEq, Nat.reduceEqDiff, Int.reduceToNat, Int.reduceLE, Int.reduceLT, Int.reduceEq, List.length_map, hb])
        | (clear hK K))
      all_goals (refine fin0 ?_; simp only [listCmp, h0, hp, cond_true])

theorem cmpStrs_c (g : FuncId) (f : (List UInt8) → (List UInt8) → Int) (a b : List (List UInt8)) (hg : ∀ x ∈ a, ∀ y ∈ b, PC Try.prog g [S x, S y] (I .i64 (f x y))) :
    PC Try.prog 101 [.one (.dat (.sl 1 (a.map encStr))), .one (.dat (.sl 1 (b.map encStr))), .one (.dat (.fn g))] (I .i64 (listCmp f a b)) := by
  refine PCB.of_body Try.func101 rfl (by decide) Try.ntmps101 Try.results101 rfl rfl rfl ?_ rfl rfl
  refine AWP.len 0 rfl fun hlen => ?_
  rw [List.length_map] at hlen
  cases h0 : decide (cmpI a.length b.length = 0) with
  | false =>
    repeat' (first
      | ((first | with_reducible refine seqVC_stepN rfl fun K hK => ?_ | with_reducible refine seqVC_stepG rfl (by with_unfolding_all rfl) fun K hK => ?_); (try simp only [go_sem, Nat.reduceBEq, Nat.reduceBNe, Nat.reduceAdd, Nat.reduceSub, Nat.reduceMul, Nat.reduceLeDiff, Nat.reduceLT, reduceCtorEq, Nat.reduceEqDiff, Int.reduceToNat, Int.reduceLE, Int.reduceLT, Int.reduceEq, List.length_map, h0]); all_goals fail_if_success guard_target =ₛ False)
      | with_reducible refine seqVC_nil ?_
      | (with_reducible refine hK _ _ _ ?_; clear hK K)
      | (with_reducible refine hK _ _ ?_; clear hK K)
      | (with_reducible refine hK _ ?_; clear hK K)
      | with_reducible refine AWP.seq fun K hK => ?_
      | (with_reducible refine AWP.seqR (by kernel_rfl) fun K hK => ?_)
      | ((first | with_reducible refine parVC_stepN rfl fun K hK => ?_ | with_reducible refine parVC_stepG rfl (by with_unfolding_all rfl) fun K hK => ?_ | with_reducible refine parEVC_stepN rfl fun K hK => ?_ | with_reducible refine parEVC_stepG rfl (by with_unfolding_all rfl) fun K hK => ?_ | with_reducible refine genVC_stepN rfl fun K hK => ?_ | with_reducible refine genVC_stepG rfl (by with_unfolding_all rfl) fun K hK => ?_); (try simp only [go_sem, Nat.reduceBEq, Nat.reduceBNe, Nat.reduceAdd, Nat.reduceSub, Nat.reduceMul, Nat.reduceLeDiff, Nat.reduceLT, reduceCtorEq, Nat.reduceEqDiff, Int.reduceToNat, Int.reduceLE, Int.reduceLT, Int.reduceEq, List.length_map, h0]); all_goals fail_if_success guard_target =ₛ False)
      | with_reducible refine parVC_nil ?_
      | with_reducible refine parEVC_nil ?_
      | with_reducible refine genVC_nil ?_
      | (with_reducible refine AWP.cond (by with_unfolding_all rfl) (fun h => ?_) (fun h => ?_); all_goals (try simp only [Bool.not_eq_true', Bool.not_eq_false'] at h); (all_goals try first | (exact absurd h Bool.false_ne_true) | (exact absurd h.symm Bool.false_ne_true) | (exact absurd h (by decide))))
      | with_reducible refine AWP.skip ?_
      | with_reducible refine AWP.ret ?_
      | with_reducible refine AWP.block ?_
      | with_reducible refine AWP.exit ?_
      | (with_reducible refine ⟨fun h => ?_, fun h => ?_⟩ <;> (try simp only [Bool.not_eq_true', Bool.not_eq_false'] at h) <;> simp only [h, go_sem, Nat.reduceBEq, Nat.reduceBNe, Nat.reduceAdd, Nat.reduceSub, Nat.reduceMul, Nat.reduceLeDiff, Nat.reduceLT, reduceCtorEq, Nat.reduceEqDiff, Int.reduceToNat, Int.reduceLE, Int.reduceLT, Int.reduceEq, List.length_map, h0])
      | ((first | (with_reducible refine ⟨_, cmpInt_c _ _, ?_⟩)); try simp only [go_sem, Nat.reduceBEq, Nat.reduceBNe, Nat.reduceAdd, Nat.reduceSub, Nat.reduceMul, Nat.reduceLeDiff, Nat.reduceLT, reduceCtorEq, Nat.reduceEqDiff, Int.reduceToNat, Int.reduceLE, Int.reduceLT, Int.reduceEq, List.length_map, h0])
      | (with_reducible refine AWP.parR mixed (by kernel_rfl) fun K hK => ?_)
      | (with_reducible refine Or.inl ?_)
      | (simp only [go_sem, Nat.reduceBEq, Nat.reduceBNe, Nat.reduceAdd, Nat.reduceSub, Nat.reduceMul, Nat.reduceLeDiff, Nat.reduceLT, reduceCtorEq, Nat.reduceEqDiff, Int.reduceToNat, Int.reduceLE, Int.reduceLT, Int.reduceEq, List.length_map, h0])
      | (clear hK K))
    all_goals (refine fin0 ?_; simp only [listCmp, h0, cond_false])
  | true =>
    have hl : a.length = b.length := by
      have := cmpI_zero.1 (of_decide_eq_true h0)
      omega
    repeat' (first
      | ((first | with_reducible refine seqVC_stepN rfl fun K hK => ?_ | with_reducible refine seqVC_stepG rfl (by with_unfolding_all rfl) fun K hK => ?_); (try simp only [go_sem, Nat.reduceBEq, Nat.reduceBNe, Nat.reduceAdd, Nat.reduceSub, Nat.reduceMul, Nat.reduceLeDiff, Nat.reduceLT, reduceCtorEq, Nat.reduceEqDiff, Int.reduceToNat, Int.reduceLE, Int.reduceLT, Int.reduceEq, List.length_map, h0]); all_goals fail_if_success guard_target =ₛ False)
      | with_reducible refine seqVC_nil ?_
      | (with_reducible refine hK _ _ _ ?_; clear hK K)
      | (with_reducible refine hK _ _ ?_; clear hK K)
      | (with_reducible refine hK _ ?_; clear hK K)
      | with_reducible refine AWP.seq fun K hK => ?_
      | (with_reducible refine AWP.seqR (by kernel_rfl) fun K hK => ?_)
      | ((first | with_reducible refine parVC_stepN rfl fun K hK => ?_ | with_reducible refine parVC_stepG rfl (by with_unfolding_all rfl) fun K hK => ?_ | with_reducible refine parEVC_stepN rfl fun K hK => ?_ | with_reducible refine parEVC_stepG rfl (by with_unfolding_all rfl) fun K hK => ?_ | with_reducible refine genVC_stepN rfl fun K hK => ?_ | with_reducible refine genVC_stepG rfl (by with_unfolding_all rfl) fun K hK => ?_); (try simp only [go_sem, Nat.reduceBEq, Nat.reduceBNe, Nat.reduceAdd, Nat.reduceSub, Nat.reduceMul, Nat.reduceLeDiff, Nat.reduceLT, reduceCtorEq, Nat.reduceEqDiff, Int.reduceToNat, Int.reduceLE, Int.reduceLT, Int.reduceEq, List.length_map, h0]); all_goals fail_if_success guard_target =ₛ False)
      | with_reducible refine parVC_nil ?_
      | with_reducible refine parEVC_nil ?_
      | with_reducible refine genVC_nil ?_
      | (with_reducible refine AWP.cond (by with_unfolding_all rfl) (fun h => ?_) (fun h => ?_); all_goals (try simp only [Bool.not_eq_true', Bool.not_eq_false'] at h); (all_goals try first | (exact absurd h Bool.false_ne_true) | (exact absurd h.symm Bool.false_ne_true) | (exact absurd h (by decide))))
      | with_reducible refine AWP.skip ?_
      | with_reducible refine AWP.ret ?_
      | with_reducible refine AWP.block ?_
      | with_reducible refine AWP.exit ?_
      | (with_reducible refine ⟨fun h => ?_, fun h => ?_⟩ <;> (try simp only [Bool.not_eq_true', Bool.not_eq_false'] at h) <;> simp only [h, go_sem, Nat.reduceBEq, Nat.reduceBNe, Nat.reduceAdd, Nat.reduceSub, Nat.reduceMul, Nat.reduceLeDiff, Nat.reduceLT, reduceCtorEq, Nat.reduceEqDiff, Int.reduceToNat, Int.reduceLE, Int.reduceLT, Int.reduceEq, List.length_map, h0])
      | ((first | (with_reducible refine ⟨_, cmpInt_c _ _, ?_⟩)); try simp only [go_sem, Nat.reduceBEq, Nat.reduceBNe, Nat.reduceAdd, Nat.reduceSub, Nat.reduceMul, Nat.reduceLeDiff, Nat.reduceLT, reduceCtorEq, Nat.reduceEqDiff, Int.reduceToNat, Int.reduceLE, Int.reduceLT, Int.reduceEq, List.length_map, h0])
      | (with_reducible refine AWP.parR mixed (by kernel_rfl) fun K hK => ?_)
      | (with_reducible refine Or.inl ?_)
      | (simp only [go_sem, Nat.reduceBEq, Nat.reduceBNe, Nat.reduceAdd, Nat.reduceSub, Nat.reduceMul, Nat.reduceLeDiff, Nat.reduceLT, reduceCtorEq, Nat.reduceEqDiff, Int.reduceToNat, Int.reduceLE, Int.reduceLT, Int.reduceEq, List.length_map, h0])
      | (clear hK K))
    refine AWP.loopS (X := Nat × Unit) (fun x => [(20, I .i64 x.1), (19, I .i64 a.length), (0, .one (.dat (.sl 1 (a.map encStr)))), (1, .one (.dat (.sl 1 (b.map encStr)))), (2, .one (.dat (.fn g)))]) (fun _ => [])
      (fun x => x.1 ≤ a.length ∧ firstC f a b = firstC f (a.drop x.1) (b.drop x.1)) (fun x => a.length - x.1) (0, ()) (Gh.to [] (by repeat (first | exact trivial | refine ⟨rfl, ?_⟩ | refine ⟨by (simp only [go_sem, Nat.reduceBEq, Nat.reduceBNe, Nat.reduceAdd, Nat.reduceSub, Nat.reduceMul, Nat.reduceLeDiff, Nat.reduceLT, reduceCtorEq, Nat.reduceEqDiff, Int.reduceToNat, Int.reduceLE, Int.reduceLT, Int.reduceEq]) <;> rfl, ?_⟩)) (by repeat (first | exact trivial | refine ⟨rfl, ?_⟩ | refine ⟨by (simp only [go_sem, Nat.reduceBEq, Nat.reduceBNe, Nat.reduceAdd, Nat.reduceSub, Nat.reduceMul, Nat.reduceLeDiff, Nat.reduceLT, reduceCtorEq, Nat.reduceEqDiff, Int.reduceToNat, Int.reduceLE, Int.reduceLT, Int.reduceEq]) <;> rfl, ?_⟩)) rfl rfl rfl) ⟨Nat.zero_le _, rfl⟩ ?_
    rintro ⟨k, u⟩ ⟨hk, hp⟩
    simp only at hk hp
    by_cases hlt : k < a.length
    · obtain ⟨x, hx, hx', hb, hdx⟩ := at_lt (enc := encStr) hlt
      obtain ⟨y, hy, hy', _, hdy⟩ := at_lt (enc := encStr) (show k < b.length by omega)
      rw [hdx, hdy, firstC] at hp
      have hgx := hg x (List.mem_of_getElem? hx) y (List.mem_of_getElem? hy)
      cases hz : decide (f x y = 0)
      ·
        repeat' (first
          | ((first | with_reducible refine seqVC_stepN rfl fun K hK => ?_ | with_reducible refine seqVC_stepG rfl (by with_unfolding_all rfl) fun K hK => ?_); (try simp only [go_sem, Nat.reduceBEq, Nat.reduceBNe, Nat.reduceAdd, Nat.reduceSub, Nat.reduceMul, Nat.reduceLeDiff, Nat.reduceLT, reduceCtorEq, Nat.reduceEqDiff, Int.reduceToNat, Int.reduceLE, Int.reduceLT, Int.reduceEq, List.length_map, hb, hz, encStr]); all_goals fail_if_success guard_target =ₛ False)
          | with_reducible refine seqVC_nil ?_
          | (with_reducible refine hK _ _ _ ?_; clear hK K)
          | (with_reducible refine hK _ _ ?_; clear hK K)
          | (with_reducible refine hK _ ?_; clear hK K)
          | with_reducible refine AWP.seq fun K hK => ?_
          | (with_reducible refine AWP.seqR (by kernel_rfl) fun K hK => ?_)
          | ((first | with_reducible refine parVC_stepN rfl fun K hK => ?_ | with_reducible refine parVC_stepG rfl (by with_unfolding_all rfl) fun K hK => ?_ | with_reducible refine parEVC_stepN rfl fun K hK => ?_ | with_reducible refine parEVC_stepG rfl (by with_unfolding_all rfl) fun K hK => ?_ | with_reducible refine genVC_stepN rfl fun K hK => ?_ | with_reducible refine genVC_stepG rfl (by with_unfolding_all rfl) fun K hK => ?_); (try simp only [go_sem, Nat.reduceBEq, Nat.reduceBNe, Nat.reduceAdd, Nat.reduceSub, Nat.reduceMul, Nat.reduceLeDiff, Nat.reduceLT, reduceCtorEq, Nat.reduceEqDiff, Int.reduceToNat, Int.reduceLE, Int.reduceLT, Int.reduceEq, List.length_map, hb, hz, encStr]); all_goals fail_if_success guard_target =ₛ False)
          | with_reducible refine parVC_nil ?_
          | with_reducible refine parEVC_nil ?_
          | with_reducible refine genVC_nil ?_
          | (with_reducible refine AWP.cond (by with_unfolding_all rfl) (fun h => ?_) (fun h => ?_); all_goals (try simp only [Bool.not_eq_true', Bool.not_eq_false'] at h); (all_goals try first | (exact absurd h Bool.false_ne_true) | (exact absurd h.symm Bool.false_ne_true) | (exact absurd h (by decide))))
          | with_reducible refine AWP.skip ?_
          | with_reducible refine AWP.ret ?_
          | with_reducible refine AWP.block ?_
          | with_reducible refine AWP.exit ?_
          | (with_reducible refine ⟨fun h => ?_, fun h => ?_⟩ <;> (try simp only [Bool.not_eq_true', Bool.not_eq_false'] at h) <;> simp only [h, go_sem, Nat.reduceBEq, Nat.reduceBNe, Nat.reduceAdd, Nat.reduceSub, Nat.reduceMul, Nat.reduceLeDiff, Nat.reduceLT, reduceCtorEq, Nat.reduceEqDiff, Int.reduceToNat, Int.reduceLE, Int.reduceLT, Int.reduceEq, List.length_map, hb, hz, encStr])
          | ((first | (with_reducible refine ⟨_, hgx, ?_⟩)); try simp only [go_sem, Nat.reduceBEq, Nat.reduceBNe, Nat.reduceAdd, Nat.reduceSub, Nat.reduceMul, Nat.reduceLeDiff, Nat.reduceLT, reduceCtorEq, Nat.reduceEqDiff, Int.reduceToNat, Int.reduceLE, Int.reduceLT, Int.reduceEq, List.length_map, hb, hz, encStr])
          | (with_reducible refine ⟨by omega, encStr x, hx', ?_⟩)
          | (with_reducible refine ⟨by omega, encStr y, hy', ?_⟩)
          | (with_reducible refine AWP.parR mixed (by kernel_rfl) fun K hK => ?_)
          | (with_reducible refine Or.inl ?_)
          | (simp only [go_sem, Nat.reduceBEq, Nat.reduceBNe, Nat.reduceAdd, Nat.reduceSub, Nat.reduceMul, Nat.reduceLeDiff, Nat.reduceLT, reduceCtorEq, Nat.reduceEqDiff, Int.reduceToNat, Int.reduceLE, Int.reduceLT, Int.reduceEq, List.length_map, hb, hz, encStr])
          | (clear hK K))
        all_goals (refine fin0 ?_; simp only [listCmp, h0, hp, hz, cond_true, cond_false])
      ·
        repeat' (first
          | ((first | with_reducible refine seqVC_stepN rfl fun K hK => ?_ | with_reducible refine seqVC_stepG rfl (by with_unfolding_all rfl) fun K hK => ?_); (try simp only [go_sem, Nat.reduceBEq, Nat.reduceBNe, Nat.reduceAdd, Nat.reduceSub, Nat.reduceMul, Nat.reduceLeDiff, Nat.reduceLT, reduceCtorEq, Nat.reduceEqDiff, Int.reduceToNat, Int.reduceLE, Int.reduceLT, Int.reduceEq, List.length_map, hb, hz, encStr]); all_goals fail_if_success guard_target =ₛ False)
          | with_reducible refine seqVC_nil ?_
          | (with_reducible refine hK _ _ _ ?_; clear hK K)
          | (with_reducible refine hK _ _ ?_; clear hK K)
          | (with_reducible refine hK _ ?_; clear hK K)
          | with_reducible refine AWP.seq fun K hK => ?_
          | (with_reducible refine AWP.seqR (by kernel_rfl) fun K hK => ?_)
          | ((first | with_reducible refine parVC_stepN rfl fun K hK => ?_ | with_reducible refine parVC_stepG rfl (by with_unfolding_all rfl) fun K hK => ?_ | with_reducible refine parEVC_stepN rfl fun K hK => ?_ | with_reducible refine parEVC_stepG rfl (by with_unfolding_all rfl) fun K hK => ?_ | with_reducible refine genVC_stepN rfl fun K hK => ?_ | with_reducible refine genVC_stepG rfl (by with_unfolding_all rfl) fun K hK => ?_); (try simp only [go_sem, Nat.reduceBEq, Nat.reduceBNe, Nat.reduceAdd, Nat.reduceSub, Nat.reduceMul, Nat.reduceLeDiff, Nat.reduceLT, reduceCtorEq, Nat.reduceEqDiff, Int.reduceToNat, Int.reduceLE, Int.reduceLT, Int.reduceEq, List.length_map, hb, hz, encStr]); all_goals fail_if_success guard_target =ₛ False)
          | with_reducible refine parVC_nil ?_
          | with_reducible refine parEVC_nil ?_
          | with_reducible refine genVC_nil ?_
          | (with_reducible refine AWP.cond (by with_unfolding_all rfl) (fun h => ?_) (fun h => ?_); all_goals (try simp only [Bool.not_eq_true', Bool.not_eq_false'] at h); (all_goals try first | (exact absurd h Bool.false_ne_true) | (exact absurd h.symm Bool.false_ne_true) | (exact absurd h (by decide))))
          | with_reducible refine AWP.skip ?_
          | with_reducible refine AWP.ret ?_
          | with_reducible refine AWP.block ?_
          | with_reducible refine AWP.exit ?_
          | (with_reducible refine ⟨fun h => ?_, fun h => ?_⟩ <;> (try simp only [Bool.not_eq_true', Bool.not_eq_false'] at h) <;> simp only [h, go_sem, Nat.reduceBEq, Nat.reduceBNe, Nat.reduceAdd, Nat.reduceSub, Nat.reduceMul, Nat.reduceLeDiff, Nat.reduceLT, reduceCtorEq, Nat.reduceEqDiff, Int.reduceToNat, Int.reduceLE, Int.reduceLT, Int.reduceEq, List.length_map, hb, hz, encStr])
          | ((first | (with_reducible refine ⟨_, hgx, ?_⟩)); try simp only [go_sem, Nat.reduceBEq, Nat.reduceBNe, Nat.reduceAdd, Nat.reduceSub, Nat.reduceMul, Nat.reduceLeDiff, Nat.reduceLT, reduceCtorEq, Nat.reduceEqDiff, Int.reduceToNat, Int.reduceLE, Int.reduceLT, Int.reduceEq, List.length_map, hb, hz, encStr])
          | (with_reducible refine ⟨by omega, encStr x, hx', ?_⟩)
          | (with_reducible refine ⟨by omega, encStr y, hy', ?_⟩)
          | (with_reducible refine AWP.parR mixed (by kernel_rfl) fun K hK => ?_)
          | (with_reducible refine Or.inl ?_)
          | (simp only [go_sem, Nat.reduceBEq, Nat.reduceBNe, Nat.reduceAdd, Nat.reduceSub, Nat.reduceMul, Nat.reduceLeDiff, Nat.reduceLT, reduceCtorEq, Nat.reduceEqDiff, Int.reduceToNat, Int.reduceLE, Int.reduceLT, Int.reduceEq, List.length_map, hb, hz, encStr])
          | (clear hK K))
        all_goals (rw [hz, cond_true] at hp)
        all_goals (rw [wrap_succ hlt hlen])
        all_goals (refine ⟨(k + 1, ()), by simp only; omega, ⟨by simp only; omega, hp⟩, Gh.to [] (by repeat (first | exact trivial | refine ⟨rfl, ?_⟩ | refine ⟨by (simp only [go_sem, Nat.reduceBEq, Nat.reduceBNe, Nat.reduceAdd, Nat.reduceSub, Nat.reduceMul, Nat.reduceLeDiff, Nat.reduceLT, reduceCtorEq, Nat.reduceEqDiff, Int.reduceToNat, Int.reduceLE, Int.reduceLT, Int.reduceEq]) <;> rfl, ?_⟩)) (by repeat (first | exact trivial | refine ⟨rfl, ?_⟩ | refine ⟨by (simp only [go_sem, Nat.reduceBEq, Nat.reduceBNe, Nat.reduceAdd, Nat.reduceSub, Nat.reduceMul, Nat.reduceLeDiff, Nat.reduceLT, reduceCtorEq, Nat.reduceEqDiff, Int.reduceToNat, Int.reduceLE, Int.reduceLT, Int.reduceEq]) <;> rfl, ?_⟩)) rfl rfl rfl⟩)
    · have hb : decide ((k : Int) < (a.length : Int)) = false := by simpa using hlt
      rw [List.drop_eq_nil_of_le (show a.length ≤ k by omega), firstC_nil] at hp
      repeat' (first
        | ((first | with_reducible refine seqVC_stepN rfl fun K hK => ?_ | with_reducible refine seqVC_stepG rfl (by with_unfolding_all rfl) fun K hK => ?_); (try simp only [go_sem, Nat.reduceBEq, Nat.reduceBNe, Nat.reduceAdd, Nat.reduceSub, Nat.reduceMul, Nat.reduceLeDiff, Nat.reduceLT, reduceCtorEq, Nat.reduceEqDiff, Int.reduceToNat, Int.reduceLE, Int.reduceLT, Int.reduceEq, List.length_map, hb]); all_goals fail_if_success guard_target =ₛ False)
        | with_reducible refine seqVC_nil ?_
        | (with_reducible refine hK _ _ _ ?_; clear hK K)
        | (with_reducible refine hK _ _ ?_; clear hK K)
        | (with_reducible refine hK _ ?_; clear hK K)
        | with_reducible refine AWP.seq fun K hK => ?_
        | (with_reducible refine AWP.seqR (by kernel_rfl) fun K hK => ?_)
        | ((first | with_reducible refine parVC_stepN rfl fun K hK => ?_ | with_reducible refine parVC_stepG rfl (by with_unfolding_all rfl) fun K hK => ?_ | with_reducible refine parEVC_stepN rfl fun K hK => ?_ | with_reducible refine parEVC_stepG rfl (by with_unfolding_all rfl) fun K hK => ?_ | with_reducible refine genVC_stepN rfl fun K hK => ?_ | with_reducible refine genVC_stepG rfl (by with_unfolding_all rfl) fun K hK => ?_); (try simp only [go_sem, Nat.reduceBEq, Nat.reduceBNe, Nat.reduceAdd, Nat.reduceSub, Nat.reduceMul, Nat.reduceLeDiff, Nat.reduceLT, reduceCtorEq, Nat.reduceEqDiff, Int.reduceToNat, Int.reduceLE, Int.reduceLT, Int.reduceEq, List.length_map, hb]); all_goals fail_if_success guard_target =ₛ False)
        | with_reducible refine parVC_nil ?_
        | with_reducible refine parEVC_nil ?_
        | with_reducible refine genVC_nil ?_
        | (with_reducible refine AWP.cond (by with_unfolding_all rfl) (fun h => ?_) (fun h => ?_); all_goals (try simp only [Bool.not_eq_true', Bool.not_eq_false'] at h); (all_goals try first | (exact absurd h Bool.false_ne_true) | (exact absurd h.symm Bool.false_ne_true) | (exact absurd h (by decide))))
        | with_reducible refine AWP.skip ?_
        | with_reducible refine AWP.ret ?_
        | with_reducible refine AWP.block ?_
        | with_reducible refine AWP.exit ?_
        | (with_reducible refine ⟨fun h => ?_, fun h => ?_⟩ <;> (try simp only [Bool.not_eq_true', Bool.not_eq_false'] at h) <;> simp only [h, go_sem, Nat.reduceBEq, Nat.reduceBNe, Nat.reduceAdd, Nat.reduceSub, Nat.reduceMul, Nat.reduceLeDiff, Nat.reduceLT, reduceCtorEq, Nat.reduceEqDiff, Int.reduceToNat, Int.reduceLE, Int.reduceLT, Int.reduceEq, List.length_map, hb])
        | (with_reducible refine AWP.parR mixed (by kernel_rfl) fun K hK => ?_)
        | (with_reducible refine Or.inl ?_)
        | (simp only [go_sem, Nat.reduceBEq, Nat.reduceBNe, Nat.reduceAdd, Nat.reduceSub, Nat.reduceMul, Nat.reduceLeDiff, Nat.reduceLT, reduceCtorEq, Nat.reduceEqDiff, Int.reduceToNat, Int.reduceLE, Int.reduceLT, Int.reduceEq, List.length_map, hb])
        | (clear hK K))
      all_goals (refine fin0 ?_; simp only [listCmp, h0, hp, cond_true])

end Go.Proofs.Ytmpfdejckbceiaa
