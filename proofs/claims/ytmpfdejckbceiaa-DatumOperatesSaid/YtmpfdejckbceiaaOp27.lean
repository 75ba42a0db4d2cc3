/- A part of the proof: lemmas about the walk of the program and about plain integers and lists. No conditions beyond those that each lemma states. -/
import Derived.Test.YtmpfdejckbceiaaOp24
import Derived.Test.YtmpfdejckbceiaaOp26
import Derived.Test.YtmpfdejckbceiaaOp16
set_option linter.unusedSimpArgs false
set_option linter.unusedVariables false
set_option maxRecDepth 20000
set_option maxHeartbeats 1000000
namespace Go.Proofs.Ytmpfdejckbceiaa
open Go Go.Sx

/-- the functions of the document's answer -/
theorem refHasFunction_c (d : Dat) : PC Try.prog 21 [.st (encDat d)] (Bo (hasFun d)) := by
  have ih : ∀ k ∈ d.kids, PC Try.prog 21 [.st (encDat k)] (Bo (hasFun k)) := fun k hk => refHasFunction_c k
  refine PCB.of_body Try.func21 rfl (by decide) Try.ntmps21 Try.results21 rfl rfl rfl ?_ rfl rfl
  cases h9 : decide (d.kind = 9) with
  | true =>
    repeat' (first
      | ((first | with_reducible refine seqVC_stepN rfl fun K hK => ?_ | with_reducible refine seqVC_stepG rfl (by with_unfolding_all rfl) fun K hK => ?_); (try simp only [go_sem, Nat.reduceBEq, Nat.reduceBNe, Nat.reduceAdd, Nat.reduceSub, Nat.reduceMul, Nat.reduceLeDiff, Nat.reduceLT, reduceCtorEq, Nat.reduceEqDiff, Int.reduceToNat, Int.reduceLE, Int.reduceLT, Int.reduceEq, encDat_eq, h9]); all_goals fail_if_success guard_target =ₛ False)
      | with_reducible refine seqVC_nil ?_
      | (with_reducible refine hK _ _ _ ?_; clear hK K)
      | (with_reducible refine hK _ _ ?_; clear hK K)
      | (with_reducible refine hK _ ?_; clear hK K)
      | with_reducible refine AWP.seq fun K hK => ?_
      | (with_reducible refine AWP.seqR (by kernel_rfl) fun K hK => ?_)
      | ((first | with_reducible refine parVC_stepN rfl fun K hK => ?_ | with_reducible refine parVC_stepG rfl (by with_unfolding_all rfl) fun K hK => ?_ | with_reducible refine parEVC_stepN rfl fun K hK => ?_ | with_reducible refine parEVC_stepG rfl (by with_unfolding_all rfl) fun K hK => ?_ | with_reducible refine genVC_stepN rfl fun K hK => ?_ | with_reducible refine genVC_stepG rfl (by with_unfolding_all rfl) fun K hK => ?_); (try simp only [go_sem, Nat.reduceBEq, Nat.reduceBNe, Nat.reduceAdd, Nat.reduceSub, Nat.reduceMul, Nat.reduceLeDiff, Nat.reduceLT, reduceCtorEq, Nat.reduceEqDiff, Int.reduceToNat, Int.reduceLE, Int.reduceLT, Int.reduceEq, encDat_eq, h9]); all_goals fail_if_success guard_target =ₛ False)
      | with_reducible refine parVC_nil ?_
      | with_reducible refine parEVC_nil ?_
      | with_reducible refine genVC_nil ?_
      | (with_reducible refine AWP.cond (by with_unfolding_all rfl) (fun h => ?_) (fun h => ?_); all_goals (try simp only [Bool.not_eq_true', Bool.not_eq_false'] at h); (all_goals try first | (exact absurd h Bool.false_ne_true) | (exact absurd h.symm Bool.false_ne_true) | (exact absurd h (by decide))))
      | with_reducible refine AWP.skip ?_
      | with_reducible refine AWP.ret ?_
      | with_reducible refine AWP.block ?_
      | with_reducible refine AWP.exit ?_
      | (with_reducible refine ⟨fun h => ?_, fun h => ?_⟩ <;> (try simp only [Bool.not_eq_true', Bool.not_eq_false'] at h) <;> simp only [h, go_sem, Nat.reduceBEq, Nat.reduceBNe, Nat.reduceAdd, Nat.reduceSub, Nat.reduceMul, Nat.reduceLeDiff, Nat.reduceLT, reduceCtorEq, Nat.reduceEqDiff, Int.reduceToNat, Int.reduceLE, Int.reduceLT, Int.reduceEq, encDat_eq, h9])
      | (with_reducible refine AWP.parR mixed (by kernel_rfl) fun K hK => ?_)
      | (with_reducible refine Or.inl ?_)
      | (simp only [go_sem, Nat.reduceBEq, Nat.reduceBNe, Nat.reduceAdd, Nat.reduceSub, Nat.reduceMul, Nat.reduceLeDiff, Nat.reduceLT, reduceCtorEq, Nat.reduceEqDiff, Int.reduceToNat, Int.reduceLE, Int.reduceLT, Int.reduceEq, encDat_eq, h9])
      | (clear hK K))
    all_goals (refine fin0 ?_; simp only [hasFun_eq, h9, Bool.true_or])
  | false =>
    repeat' (first
      | ((first | with_reducible refine seqVC_stepN rfl fun K hK => ?_ | with_reducible refine seqVC_stepG rfl (by with_unfolding_all rfl) fun K hK => ?_); (try simp only [go_sem, Nat.reduceBEq, Nat.reduceBNe, Nat.reduceAdd, Nat.reduceSub, Nat.reduceMul, Nat.reduceLeDiff, Nat.reduceLT, reduceCtorEq, Nat.reduceEqDiff, Int.reduceToNat, Int.reduceLE, Int.reduceLT, Int.reduceEq, encDat_eq, h9, List.length_map]); all_goals fail_if_success guard_target =ₛ False)
      | with_reducible refine seqVC_nil ?_
      | (with_reducible refine hK _ _ _ ?_; clear hK K)
      | (with_reducible refine hK _ _ ?_; clear hK K)
      | (with_reducible refine hK _ ?_; clear hK K)
      | with_reducible refine AWP.seq fun K hK => ?_
      | (with_reducible refine AWP.seqR (by kernel_rfl) fun K hK => ?_)
      | ((first | with_reducible refine parVC_stepN rfl fun K hK => ?_ | with_reducible refine parVC_stepG rfl (by with_unfolding_all rfl) fun K hK => ?_ | with_reducible refine parEVC_stepN rfl fun K hK => ?_ | with_reducible refine parEVC_stepG rfl (by with_unfolding_all rfl) fun K hK => ?_ | with_reducible refine genVC_stepN rfl fun K hK => ?_ | with_reducible refine genVC_stepG rfl (by with_unfolding_all rfl) fun K hK => ?_); (try simp only [go_sem, Nat.reduceBEq, Nat.reduceBNe, Nat.reduceAdd, Nat.reduceSub, Nat.reduceMul, Nat.reduceLeDiff, Nat.reduceLT, reduceCtorEq, Nat.reduceEqDiff, Int.reduceToNat, Int.reduceLE, Int.reduceLT, Int.reduceEq, encDat_eq, h9, List.length_map]); all_goals fail_if_success guard_target =ₛ False)
      | with_reducible refine parVC_nil ?_
      | with_reducible refine parEVC_nil ?_
      | with_reducible refine genVC_nil ?_
      | (with_reducible refine AWP.cond (by with_unfolding_all rfl) (fun h => ?_) (fun h => ?_); all_goals (try simp only [Bool.not_eq_true', Bool.not_eq_false'] at h); (all_goals try first | (exact absurd h Bool.false_ne_true) | (exact absurd h.symm Bool.false_ne_true) | (exact absurd h (by decide))))
      | with_reducible refine AWP.skip ?_
      | with_reducible refine AWP.ret ?_
      | with_reducible refine AWP.block ?_
      | with_reducible refine AWP.exit ?_
      | (with_reducible refine ⟨fun h => ?_, fun h => ?_⟩ <;> (try simp only [Bool.not_eq_true', Bool.not_eq_false'] at h) <;> simp only [h, go_sem, Nat.reduceBEq, Nat.reduceBNe, Nat.reduceAdd, Nat.reduceSub, Nat.reduceMul, Nat.reduceLeDiff, Nat.reduceLT, reduceCtorEq, Nat.reduceEqDiff, Int.reduceToNat, Int.reduceLE, Int.reduceLT, Int.reduceEq, encDat_eq, h9, List.length_map])
      | (with_reducible refine AWP.parR mixed (by kernel_rfl) fun K hK => ?_)
      | (with_reducible refine Or.inl ?_)
      | (simp only [go_sem, Nat.reduceBEq, Nat.reduceBNe, Nat.reduceAdd, Nat.reduceSub, Nat.reduceMul, Nat.reduceLeDiff, Nat.reduceLT, reduceCtorEq, Nat.reduceEqDiff, Int.reduceToNat, Int.reduceLE, Int.reduceLT, Int.reduceEq, encDat_eq, h9, List.length_map])
      | (clear hK K))
    refine AWP.len 9 rfl fun hlen => ?_
    rw [List.length_map] at hlen
    refine AWP.loopS (X := Nat × Unit) (fun x => [(11, I .i64 x.1), (10, I .i64 d.kids.length), (9, .one (.dat (.sl 13 (d.kids.map encDat))))]) (fun _ => [])
      (fun x => x.1 ≤ d.kids.length ∧ d.kids.any hasFun = (d.kids.drop x.1).any hasFun) (fun x => d.kids.length - x.1) (0, ()) (Gh.to [] (by repeat (first | exact trivial | refine ⟨rfl, ?_⟩ | refine ⟨by (simp only [go_sem, Nat.reduceBEq, Nat.reduceBNe, Nat.reduceAdd, Nat.reduceSub, Nat.reduceMul, Nat.reduceLeDiff, Nat.reduceLT, reduceCtorEq, Nat.reduceEqDiff, Int.reduceToNat, Int.reduceLE, Int.reduceLT, Int.reduceEq]) <;> rfl, ?_⟩)) (by repeat (first | exact trivial | refine ⟨rfl, ?_⟩ | refine ⟨by (simp only [go_sem, Nat.reduceBEq, Nat.reduceBNe, Nat.reduceAdd, Nat.reduceSub, Nat.reduceMul, Nat.reduceLeDiff, Nat.reduceLT, reduceCtorEq, Nat.reduceEqDiff, Int.reduceToNat, Int.reduceLE, Int.reduceLT, Int.reduceEq]) <;> rfl, ?_⟩)) rfl rfl rfl) ⟨Nat.zero_le _, rfl⟩ ?_
    rintro ⟨k, u⟩ ⟨hk, hp⟩
    simp only at hk hp
    by_cases hlt : k < d.kids.length
    · obtain ⟨x, hx, hx', hb, hdx⟩ := at_lt (enc := encDat) hlt
      rw [hdx, List.any_cons] at hp
      have hgx := ih x (List.mem_of_getElem? hx)
      cases hz : hasFun x
      ·
        repeat' (first
          | ((first | with_reducible refine seqVC_stepN rfl fun K hK => ?_ | with_reducible refine seqVC_stepG rfl (by with_unfolding_all rfl) fun K hK => ?_); (try simp only [go_sem, Nat.reduceBEq, Nat.reduceBNe, Nat.reduceAdd, Nat.reduceSub, Nat.reduceMul, Nat.reduceLeDiff, Nat.reduceLT, reduceCtorEq, Nat.reduceEqDiff, Int.reduceToNat, Int.reduceLE, Int.reduceLT, Int.reduceEq, List.length_map, hb, hz]); all_goals fail_if_success guard_target =ₛ False)
          | with_reducible refine seqVC_nil ?_
          | (with_reducible refine hK _ _ _ ?_; clear hK K)
          | (with_reducible refine hK _ _ ?_; clear hK K)
          | (with_reducible refine hK _ ?_; clear hK K)
          | with_reducible refine AWP.seq fun K hK => ?_
          | (with_reducible refine AWP.seqR (by kernel_rfl) fun K hK => ?_)
          | ((first | with_reducible refine parVC_stepN rfl fun K hK => ?_ | with_reducible refine parVC_stepG rfl (by with_unfolding_all rfl) fun K hK => ?_ | with_reducible refine parEVC_stepN rfl fun K hK => ?_ | with_reducible refine parEVC_stepG rfl (by with_unfolding_all rfl) fun K hK => ?_ | with_reducible refine genVC_stepN rfl fun K hK => ?_ | with_reducible refine genVC_stepG rfl (by with_unfolding_all rfl) fun K hK => ?_); (try simp only [go_sem, Nat.reduceBEq, Nat.reduceBNe, Nat.reduceAdd, Nat.reduceSub, Nat.reduceMul, Nat.reduceLeDiff, Nat.reduceLT, reduceCtorEq, Nat.reduceEqDiff, Int.reduceToNat, Int.reduceLE, Int.reduceLT, Int.reduceEq, List.length_map, hb, hz]); all_goals fail_if_success guard_target =ₛ False)
          | with_reducible refine parVC_nil ?_
          | with_reducible refine parEVC_nil ?_
          | with_reducible refine genVC_nil ?_
          | (with_reducible refine AWP.cond (by with_unfolding_all rfl) (fun h => ?_) (fun h => ?_); all_goals (try simp only [Bool.not_eq_true', Bool.not_eq_false'] at h); (all_goals try first | (exact absurd h Bool.false_ne_true) | (exact absurd h.symm Bool.false_ne_true) | (exact absurd h (by decide))))
          | with_reducible refine AWP.skip ?_
          | with_reducible refine AWP.ret ?_
          | with_reducible refine AWP.block ?_
          | with_reducible refine AWP.exit ?_
          | (with_reducible refine ⟨fun h => ?_, fun h => ?_⟩ <;> (try simp only [Bool.not_eq_true', Bool.not_eq_false'] at h) <;> simp only [h, go_sem, Nat.reduceBEq, Nat.reduceBNe, Nat.reduceAdd, Nat.reduceSub, Nat.reduceMul, Nat.reduceLeDiff, Nat.reduceLT, reduceCtorEq, Nat.reduceEqDiff, Int.reduceToNat, Int.reduceLE, Int.reduceLT, Int.reduceEq, List.length_map, hb, hz])
          | ((first | (with_reducible refine ⟨_, hgx, ?_⟩)); try simp only [go_sem, Nat.reduceBEq, Nat.reduceBNe, Nat.reduceAdd, Nat.reduceSub, Nat.reduceMul, Nat.reduceLeDiff, Nat.reduceLT, reduceCtorEq, Nat.reduceEqDiff, Int.reduceToNat, Int.reduceLE, Int.reduceLT, Int.reduceEq, List.length_map, hb, hz])
          | (with_reducible refine ⟨by omega, encDat x, hx', ?_⟩)
          | (with_reducible refine AWP.parR mixed (by kernel_rfl) fun K hK => ?_)
          | (with_reducible refine Or.inl ?_)
          | (simp only [go_sem, Nat.reduceBEq, Nat.reduceBNe, Nat.reduceAdd, Nat.reduceSub, Nat.reduceMul, Nat.reduceLeDiff, Nat.reduceLT, reduceCtorEq, Nat.reduceEqDiff, Int.reduceToNat, Int.reduceLE, Int.reduceLT, Int.reduceEq, List.length_map, hb, hz])
          | (clear hK K))
        all_goals (rw [hz, Bool.false_or] at hp)
        all_goals (rw [wrap_succ hlt hlen])
        all_goals (refine ⟨(k + 1, ()), by simp only; omega, ⟨by simp only; omega, hp⟩, Gh.to [] (by repeat (first | exact trivial | refine ⟨rfl, ?_⟩ | refine ⟨by (simp only [go_sem, Nat.reduceBEq, Nat.reduceBNe, Nat.reduceAdd, Nat.reduceSub, Nat.reduceMul, Nat.reduceLeDiff, Nat.reduceLT, reduceCtorEq, Nat.reduceEqDiff, Int.reduceToNat, Int.reduceLE, Int.reduceLT, Int.reduceEq]) <;> rfl, ?_⟩)) (by repeat (first | exact trivial | refine ⟨rfl, ?_⟩ | refine ⟨by (simp only [go_sem, Nat.reduceBEq, Nat.reduceBNe, Nat.reduceAdd, Nat.reduceSub, Nat.reduceMul, Nat.reduceLeDiff, Nat.reduceLT, reduceCtorEq, Nat.reduceEqDiff, Int.reduceToNat, Int.reduceLE, Int.reduceLT, Int.reduceEq]) <;> rfl, ?_⟩)) rfl rfl rfl⟩)
      ·
        repeat' (first
          | ((first | with_reducible refine seqVC_stepN rfl fun K hK => ?_ | with_reducible refine seqVC_stepG rfl (by with_unfolding_all rfl) fun K hK => ?_); (try simp only [go_sem, Nat.reduceBEq, Nat.reduceBNe, Nat.reduceAdd, Nat.reduceSub, Nat.reduceMul, Nat.reduceLeDiff, Nat.reduceLT, reduceCtorEq, Nat.reduceEqDiff, Int.reduceToNat, Int.reduceLE, Int.reduceLT, Int.reduceEq, List.length_map, hb, hz]); all_goals fail_if_success guard_target =ₛ False)
          | with_reducible refine seqVC_nil ?_
          | (with_reducible refine hK _ _ _ ?_; clear hK K)
          | (with_reducible refine hK _ _ ?_; clear hK K)
          | (with_reducible refine hK _ ?_; clear hK K)
          | with_reducible refine AWP.seq fun K hK => ?_
          | (with_reducible refine AWP.seqR (by kernel_rfl) fun K hK => ?_)
          | ((first | with_reducible refine parVC_stepN rfl fun K hK => ?_ | with_reducible refine parVC_stepG rfl (by with_unfolding_all rfl) fun K hK => ?_ | with_reducible refine parEVC_stepN rfl fun K hK => ?_ | with_reducible refine parEVC_stepG rfl (by with_unfolding_all rfl) fun K hK => ?_ | with_reducible refine genVC_stepN rfl fun K hK => ?_ | with_reducible refine genVC_stepG rfl (by with_unfolding_all rfl) fun K hK => ?_); (try simp only [go_sem, Nat.reduceBEq, Nat.reduceBNe, Nat.reduceAdd, Nat.reduceSub, Nat.reduceMul, Nat.reduceLeDiff, Nat.reduceLT, reduceCtorEq, Nat.reduceEqDiff, Int.reduceToNat, Int.reduceLE, Int.reduceLT, Int.reduceEq, List.length_map, hb, hz]); all_goals fail_if_success guard_target =ₛ False)
          | with_reducible refine parVC_nil ?_
          | with_reducible refine parEVC_nil ?_
          | with_reducible refine genVC_nil ?_
          | (with_reducible refine AWP.cond (by with_unfolding_all rfl) (fun h => ?_) (fun h => ?_); all_goals (try simp only [Bool.not_eq_true', Bool.not_eq_false'] at h); (all_goals try first | (exact absurd h Bool.false_ne_true) | (exact absurd h.symm Bool.false_ne_true) | (exact absurd h (by decide))))
          | with_reducible refine AWP.skip ?_
          | with_reducible refine AWP.ret ?_
          | with_reducible refine AWP.block ?_
          | with_reducible refine AWP.exit ?_
          | (with_reducible refine ⟨fun h => ?_, fun h => ?_⟩ <;> (try simp only [Bool.not_eq_true', Bool.not_eq_false'] at h) <;> simp only [h, go_sem, Nat.reduceBEq, Nat.reduceBNe, Nat.reduceAdd, Nat.reduceSub, Nat.reduceMul, Nat.reduceLeDiff, Nat.reduceLT, reduceCtorEq, Nat.reduceEqDiff, Int.reduceToNat, Int.reduceLE, Int.reduceLT, Int.reduceEq, List.length_map, hb, hz])
          | ((first | (with_reducible refine ⟨_, hgx, ?_⟩)); try simp only [go_sem, Nat.reduceBEq, Nat.reduceBNe, Nat.reduceAdd, Nat.reduceSub, Nat.reduceMul, Nat.reduceLeDiff, Nat.reduceLT, reduceCtorEq, Nat.reduceEqDiff, Int.reduceToNat, Int.reduceLE, Int.reduceLT, Int.reduceEq, List.length_map, hb, hz])
          | (with_reducible refine ⟨by omega, encDat x, hx', ?_⟩)
          | (with_reducible refine AWP.parR mixed (by kernel_rfl) fun K hK => ?_)
          | (with_reducible refine Or.inl ?_)
          | (simp only [go_sem, Nat.reduceBEq, Nat.reduceBNe, Nat.reduceAdd, Nat.reduceSub, Nat.reduceMul, Nat.reduceLeDiff, Nat.reduceLT, reduceCtorEq, Nat.reduceEqDiff, Int.reduceToNat, Int.reduceLE, Int.reduceLT, Int.reduceEq, List.length_map, hb, hz])
          | (clear hK K))
        all_goals (refine fin0 ?_; rw [hasFun_eq d, h9, hp, hz]; rfl)
    · obtain ⟨hb, hdx⟩ := at_ge hlt
      rw [hdx, List.any_nil] at hp
      repeat' (first
        | ((first | with_reducible refine seqVC_stepN rfl fun K hK => ?_ | with_reducible refine seqVC_stepG rfl (by with_unfolding_all rfl) fun K hK => ?_); (try simp only [go_sem, Nat.reduceBEq, Nat.reduceBNe, Nat.reduceAdd, Nat.reduceSub, Nat.reduceMul, Nat.reduceLeDiff, Nat.reduceLT, reduceCtorEq, Nat.reduceEqDiff, Int.reduceToNat, Int.reduceLE, Int.reduceLT, Int.reduceEq, List.length_map, hb]); all_goals fail_if_success guard_target =ₛ False)
        | with_reducible refine seqVC_nil ?_
        | (with_reducible refine hK _ _ _ ?_; clear hK K)
        | (with_reducible refine hK _ _ ?_; clear hK K)
        | (with_reducible refine hK _ ?_; clear hK K)
        | with_reducible refine AWP.seq fun K hK => ?_
        | (with_reducible refine AWP.seqR (by kernel_rfl) fun K hK => ?_)
        | ((first | with_reducible refine parVC_stepN rfl fun K hK => ?_ | with_reducible refine parVC_stepG rfl (by with_unfolding_all rfl) fun K hK => ?_ | with_reducible refine parEVC_stepN rfl fun K hK => ?_ | with_reducible refine parEVC_stepG rfl (by with_unfolding_all rfl) fun K hK => ?_ | with_reducible refine genVC_stepN rfl fun K hK => ?_ | with_reducible refine genVC_stepG rfl (by with_unfolding_all rfl) fun K hK => ?_); (try simp only [go_sem, Nat.reduceBEq, Nat.reduceBNe, Nat.reduceAdd, Nat.reduceSub, Nat.reduceMul, Nat.reduceLeDiff, Nat.reduceLT, reduceCtorEq, Nat.reduceEqDiff, Int.reduceToNat, Int.reduceLE, Int.reduceLT, Int.reduceEq, List.length_map, hb]); all_goals fail_if_success guard_target =ₛ False)
        | with_reducible refine parVC_nil ?_
        | with_reducible refine parEVC_nil ?_
        | with_reducible refine genVC_nil ?_
        | (with_reducible refine AWP.cond (by with_unfolding_all rfl) (fun h => ?_) (fun h => ?_); all_goals (try simp only [Bool.not_eq_true', Bool.not_eq_false'] at h); (all_goals try first | (exact absurd h Bool.false_ne_true) | (exact absurd h.symm Bool.false_ne_true) | (exact absurd h (by decide))))
        | with_reducible refine AWP.skip ?_
        | with_reducible refine AWP.ret ?_
        | with_reducible refine AWP.block ?_
        | with_reducible refine AWP.exit ?_
        | (with_reducible refine ⟨fun h => ?_, fun h => ?_⟩ <;> (try simp only [Bool.not_eq_true', Bool.not_eq_false'] at h) <;> simp only [h, go_sem, Nat.reduceBEq, Nat.reduceBNe, Nat.reduceAdd, Nat.reduceSub, Nat.reduceMul, Nat.reduceLeDiff, Nat.reduceLT, reduceCtorEq, Nat.reduceEqDiff, Int.reduceToNat, Int.reduceLE, Int.reduceLT, Int.reduceEq, List.length_map, hb])
        | (with_reducible refine AWP.parR mixed (by kernel_rfl) fun K hK => ?_)
        | (with_reducible refine Or.inl ?_)
        | (simp only [go_sem, Nat.reduceBEq, Nat.reduceBNe, Nat.reduceAdd, Nat.reduceSub, Nat.reduceMul, Nat.reduceLeDiff, Nat.reduceLT, reduceCtorEq, Nat.reduceEqDiff, Int.reduceToNat, Int.reduceLE, Int.reduceLT, Int.reduceEq, List.length_map, hb])
        | (clear hK K))
      all_goals (refine fin0 ?_; simp only [hasFun_eq, h9, hp, Bool.false_or])
termination_by SizeOf.sizeOf d
decreasing_by
  cases d; simp only at hk; have := List.sizeOf_lt_of_mem hk; simp; omega

def isBoolD (d : Dat) : Bool := decide (d.kind = 3) && (decide (d.text = sTrue) || decide (d.text = sFalse))
theorem isBool_c (d : Dat) : PC Try.prog 39 [.st (encDat d)] (Bo (isBoolD d)) := by
  refine PCB.of_body Try.func39 rfl (by decide) Try.ntmps39 Try.results39 rfl rfl rfl ?_ rfl rfl
  cases h3 : decide (d.kind = 3) <;> cases ht : decide (d.text = sTrue) <;> cases hf : decide (d.text = sFalse)
  all_goals (have ht' := ht; have hf' := hf; unfold sTrue at ht'; unfold sFalse at hf')
  repeat' (first
    | ((first | with_reducible refine seqVC_stepN rfl fun K hK => ?_ | with_reducible refine seqVC_stepG rfl (by with_unfolding_all rfl) fun K hK => ?_); (try simp only [go_sem, Nat.reduceBEq, Nat.reduceBNe, Nat.reduceAdd, Nat.reduceSub, Nat.reduceMul, Nat.reduceLeDiff, Nat.reduceLT, reduceCtorEq, Nat.reduceEqDiff, Int.reduceToNat, Int.reduceLE, Int.reduceLT, Int.reduceEq, encDat_eq, h3, ht', hf']); all_goals fail_if_success guard_target =ₛ False)
    | with_reducible refine seqVC_nil ?_
    | (with_reducible refine hK _ _ _ ?_; clear hK K)
    | (with_reducible refine hK _ _ ?_; clear hK K)
    | (with_reducible refine hK _ ?_; clear hK K)
    | with_reducible refine AWP.seq fun K hK => ?_
    | (with_reducible refine AWP.seqR (by kernel_rfl) fun K hK => ?_)
    | ((first | with_reducible refine parVC_stepN rfl fun K hK => ?_ | with_reducible refine parVC_stepG rfl (by with_unfolding_all rfl) fun K hK => ?_ | with_reducible refine parEVC_stepN rfl fun K hK => ?_ | with_reducible refine parEVC_stepG rfl (by with_unfolding_all rfl) fun K hK => ?_ | with_reducible refine genVC_stepN rfl fun K hK => ?_ | with_reducible refine genVC_stepG rfl (by with_unfolding_all rfl) fun K hK => ?_); (try simp only [go_sem, Nat.reduceBEq, Nat.reduceBNe, Nat.reduceAdd, Nat.reduceSub, Nat.reduceMul, Nat.reduceLeDiff, Nat.reduceLT, reduceCtorEq, Nat.reduceEqDiff, Int.reduceToNat, Int.reduceLE, Int.reduceLT, Int.reduceEq, encDat_eq, h3, ht', hf']); all_goals fail_if_success guard_target =ₛ False)
    | with_reducible refine parVC_nil ?_
    | with_reducible refine parEVC_nil ?_
    | with_reducible refine genVC_nil ?_
    | (with_reducible refine AWP.cond (by with_unfolding_all rfl) (fun h => ?_) (fun h => ?_); all_goals (try simp only [Bool.not_eq_true', Bool.not_eq_false'] at h); (all_goals try first | (exact absurd h Bool.false_ne_true) | (exact absurd h.symm Bool.false_ne_true) | (exact absurd h (by decide))))
    | with_reducible refine AWP.skip ?_
    | with_reducible refine AWP.ret ?_
    | with_reducible refine AWP.block ?_
    | with_reducible refine AWP.exit ?_
    | (with_reducible refine ⟨fun h => ?_, fun h => ?_⟩ <;> (try simp only [Bool.not_eq_true', Bool.not_eq_false'] at h) <;> simp only [h, go_sem, Nat.reduceBEq, Nat.reduceBNe, Nat.reduceAdd, Nat.reduceSub, Nat.reduceMul, Nat.reduceLeDiff, Nat.reduceLT, reduceCtorEq, Nat.reduceEqDiff, Int.reduceToNat, Int.reduceLE, Int.reduceLT, Int.reduceEq, encDat_eq, h3, ht', hf'])
    | (with_reducible refine AWP.parR mixed (by kernel_rfl) fun K hK => ?_)
    | (with_reducible refine Or.inl ?_)
    | (simp only [go_sem, Nat.reduceBEq, Nat.reduceBNe, Nat.reduceAdd, Nat.reduceSub, Nat.reduceMul, Nat.reduceLeDiff, Nat.reduceLT, reduceCtorEq, Nat.reduceEqDiff, Int.reduceToNat, Int.reduceLE, Int.reduceLT, Int.reduceEq, encDat_eq, h3, ht', hf'])
    | (clear hK K))
  all_goals (refine fin0 ?_; simp only [isBoolD, h3, ht, hf]; rfl)
theorem refAtom_c (s : List UInt8) : PC Try.prog 65 [S s] (Dt (atomDat s)) := by
  refine PCB.of_body Try.func65 rfl (by decide) Try.ntmps65 Try.results65 rfl rfl rfl ?_ rfl rfl
  repeat' (first
    | ((first | with_reducible refine seqVC_stepN rfl fun K hK => ?_ | with_reducible refine seqVC_stepG rfl (by with_unfolding_all rfl) fun K hK => ?_); (try simp only [go_sem, Nat.reduceBEq, Nat.reduceBNe, Nat.reduceAdd, Nat.reduceSub, Nat.reduceMul, Nat.reduceLeDiff, Nat.reduceLT, reduceCtorEq, Nat.reduceEqDiff, Int.reduceToNat, Int.reduceLE, Int.reduceLT, Int.reduceEq]); all_goals fail_if_success guard_target =ₛ False)
    | with_reducible refine seqVC_nil ?_
    | (with_reducible refine hK _ _ _ ?_; clear hK K)
    | (with_reducible refine hK _ _ ?_; clear hK K)
    | (with_reducible refine hK _ ?_; clear hK K)
    | with_reducible refine AWP.seq fun K hK => ?_
    | (with_reducible refine AWP.seqR (by kernel_rfl) fun K hK => ?_)
    | ((first | with_reducible refine parVC_stepN rfl fun K hK => ?_ | with_reducible refine parVC_stepG rfl (by with_unfolding_all rfl) fun K hK => ?_ | with_reducible refine parEVC_stepN rfl fun K hK => ?_ | with_reducible refine parEVC_stepG rfl (by with_unfolding_all rfl) fun K hK => ?_ | with_reducible refine genVC_stepN rfl fun K hK => ?_ | with_reducible refine genVC_stepG rfl (by with_unfolding_all rfl) fun K hK => ?_); (try simp only [go_sem, Nat.reduceBEq, Nat.reduceBNe, Nat.reduceAdd, Nat.reduceSub, Nat.reduceMul, Nat.reduceLeDiff, Nat.reduceLT, reduceCtorEq, Nat.reduceEqDiff, Int.reduceToNat, Int.reduceLE, Int.reduceLT, Int.reduceEq]); all_goals fail_if_success guard_target =ₛ False)
    | with_reducible refine parVC_nil ?_
    | with_reducible refine parEVC_nil ?_
    | with_reducible refine genVC_nil ?_
    | (with_reducible refine AWP.cond (by with_unfolding_all rfl) (fun h => ?_) (fun h => ?_); all_goals (try simp only [Bool.not_eq_true', Bool.not_eq_false'] at h); (all_goals try first | (exact absurd h Bool.false_ne_true) | (exact absurd h.symm Bool.false_ne_true) | (exact absurd h (by decide))))
    | with_reducible refine AWP.skip ?_
    | with_reducible refine AWP.ret ?_
    | with_reducible refine AWP.block ?_
    | with_reducible refine AWP.exit ?_
    | (with_reducible refine ⟨fun h => ?_, fun h => ?_⟩ <;> (try simp only [Bool.not_eq_true', Bool.not_eq_false'] at h) <;> simp only [h, go_sem, Nat.reduceBEq, Nat.reduceBNe, Nat.reduceAdd, Nat.reduceSub, Nat.reduceMul, Nat.reduceLeDiff, Nat.reduceLT, reduceCtorEq, Nat.reduceEqDiff, Int.reduceToNat, Int.reduceLE, Int.reduceLT, Int.reduceEq])
    | (with_reducible refine AWP.parR mixed (by kernel_rfl) fun K hK => ?_)
    | (with_reducible refine Or.inl ?_)
    | (simp only [go_sem, Nat.reduceBEq, Nat.reduceBNe, Nat.reduceAdd, Nat.reduceSub, Nat.reduceMul, Nat.reduceLeDiff, Nat.reduceLT, reduceCtorEq, Nat.reduceEqDiff, Int.reduceToNat, Int.reduceLE, Int.reduceLT, Int.reduceEq])
    | (clear hK K))
  all_goals (first | exact fun _ h => (by cases h) | refine fin0 ?_)
  all_goals (simp only [Dt, encDat_eq]; rfl)
theorem whether_c (b : Bool) : PC Try.prog 40 [Bo b] (Dt (boolDat b)) := by
  refine PCB.of_body Try.func40 rfl (by decide) Try.ntmps40 Try.results40 rfl rfl rfl ?_ rfl rfl
  cases b
  repeat' (first
    | ((first | with_reducible refine seqVC_stepN rfl fun K hK => ?_ | with_reducible refine seqVC_stepG rfl (by with_unfolding_all rfl) fun K hK => ?_); (try simp only [go_sem, Nat.reduceBEq, Nat.reduceBNe, Nat.reduceAdd, Nat.reduceSub, Nat.reduceMul, Nat.reduceLeDiff, Nat.reduceLT, reduceCtorEq, Nat.reduceEqDiff, Int.reduceToNat, Int.reduceLE, Int.reduceLT, Int.reduceEq]); all_goals fail_if_success guard_target =ₛ False)
    | with_reducible refine seqVC_nil ?_
    | (with_reducible refine hK _ _ _ ?_; clear hK K)
    | (with_reducible refine hK _ _ ?_; clear hK K)
    | (with_reducible refine hK _ ?_; clear hK K)
    | with_reducible refine AWP.seq fun K hK => ?_
    | (with_reducible refine AWP.seqR (by kernel_rfl) fun K hK => ?_)
    | ((first | with_reducible refine parVC_stepN rfl fun K hK => ?_ | with_reducible refine parVC_stepG rfl (by with_unfolding_all rfl) fun K hK => ?_ | with_reducible refine parEVC_stepN rfl fun K hK => ?_ | with_reducible refine parEVC_stepG rfl (by with_unfolding_all rfl) fun K hK => ?_ | with_reducible refine genVC_stepN rfl fun K hK => ?_ | with_reducible refine genVC_stepG rfl (by with_unfolding_all rfl) fun K hK => ?_); (try simp only [go_sem, Nat.reduceBEq, Nat.reduceBNe, Nat.reduceAdd, Nat.reduceSub, Nat.reduceMul, Nat.reduceLeDiff, Nat.reduceLT, reduceCtorEq, Nat.reduceEqDiff, Int.reduceToNat, Int.reduceLE, Int.reduceLT, Int.reduceEq]); all_goals fail_if_success guard_target =ₛ False)
    | with_reducible refine parVC_nil ?_
    | with_reducible refine parEVC_nil ?_
    | with_reducible refine genVC_nil ?_
    | (with_reducible refine AWP.cond (by with_unfolding_all rfl) (fun h => ?_) (fun h => ?_); all_goals (try simp only [Bool.not_eq_true', Bool.not_eq_false'] at h); (all_goals try first | (exact absurd h Bool.false_ne_true) | (exact absurd h.symm Bool.false_ne_true) | (exact absurd h (by decide))))
    | with_reducible refine AWP.skip ?_
    | with_reducible refine AWP.ret ?_
    | with_reducible refine AWP.block ?_
    | with_reducible refine AWP.exit ?_
    | (with_reducible refine ⟨fun h => ?_, fun h => ?_⟩ <;> (try simp only [Bool.not_eq_true', Bool.not_eq_false'] at h) <;> simp only [h, go_sem, Nat.reduceBEq, Nat.reduceBNe, Nat.reduceAdd, Nat.reduceSub, Nat.reduceMul, Nat.reduceLeDiff, Nat.reduceLT, reduceCtorEq, Nat.reduceEqDiff, Int.reduceToNat, Int.reduceLE, Int.reduceLT, Int.reduceEq])
    | ((first | (with_reducible refine ⟨_, refAtom_c _, ?_⟩)); try simp only [go_sem, Nat.reduceBEq, Nat.reduceBNe, Nat.reduceAdd, Nat.reduceSub, Nat.reduceMul, Nat.reduceLeDiff, Nat.reduceLT, reduceCtorEq, Nat.reduceEqDiff, Int.reduceToNat, Int.reduceLE, Int.reduceLT, Int.reduceEq])
    | (with_reducible refine AWP.parR mixed (by kernel_rfl) fun K hK => ?_)
    | (with_reducible refine Or.inl ?_)
    | (simp only [go_sem, Nat.reduceBEq, Nat.reduceBNe, Nat.reduceAdd, Nat.reduceSub, Nat.reduceMul, Nat.reduceLeDiff, Nat.reduceLT, reduceCtorEq, Nat.reduceEqDiff, Int.reduceToNat, Int.reduceLE, Int.reduceLT, Int.reduceEq])
    | (clear hK K))
  all_goals (refine fin0 ?_; simp only [boolDat, cond_true, cond_false, sTrue, sFalse])
theorem sum_c (a b : Int) : PC Try.prog 66 [I .i64 a, I .i64 b] (.tup [I .i64 (IntKind.i64.wrap (a + b)), Bo (decide (a < IntKind.i64.wrap (a + b)) == decide (0 < b))]) := by
  refine PCB.of_body Try.func66 rfl (by decide) Try.ntmps66 Try.results66 rfl rfl rfl ?_ rfl rfl
  repeat' (first
    | ((first | with_reducible refine seqVC_stepN rfl fun K hK => ?_ | with_reducible refine seqVC_stepG rfl (by with_unfolding_all rfl) fun K hK => ?_); (try simp only [go_sem, Nat.reduceBEq, Nat.reduceBNe, Nat.reduceAdd, Nat.reduceSub, Nat.reduceMul, Nat.reduceLeDiff, Nat.reduceLT, reduceCtorEq, Nat.reduceEqDiff, Int.reduceToNat, Int.reduceLE, Int.reduceLT, Int.reduceEq]); all_goals fail_if_success guard_target =ₛ False)
    | with_reducible refine seqVC_nil ?_
    | (with_reducible refine hK _ _ _ ?_; clear hK K)
    | (with_reducible refine hK _ _ ?_; clear hK K)
    | (with_reducible refine hK _ ?_; clear hK K)
    | with_reducible refine AWP.seq fun K hK => ?_
    | (with_reducible refine AWP.seqR (by kernel_rfl) fun K hK => ?_)
    | ((first | with_reducible refine parVC_stepN rfl fun K hK => ?_ | with_reducible refine parVC_stepG rfl (by with_unfolding_all rfl) fun K hK => ?_ | with_reducible refine parEVC_stepN rfl fun K hK => ?_ | with_reducible refine parEVC_stepG rfl (by with_unfolding_all rfl) fun K hK => ?_ | with_reducible refine genVC_stepN rfl fun K hK => ?_ | with_reducible refine genVC_stepG rfl (by with_unfolding_all rfl) fun K hK => ?_); (try simp only [go_sem, Nat.reduceBEq, Nat.reduceBNe, Nat.reduceAdd, Nat.reduceSub, Nat.reduceMul, Nat.reduceLeDiff, Nat.reduceLT, reduceCtorEq, Nat.reduceEqDiff, Int.reduceToNat, Int.reduceLE, Int.reduceLT, Int.reduceEq]); all_goals fail_if_success guard_target =ₛ False)
    | with_reducible refine parVC_nil ?_
    | with_reducible refine parEVC_nil ?_
    | with_reducible refine genVC_nil ?_
    | (with_reducible refine AWP.cond (by with_unfolding_all rfl) (fun h => ?_) (fun h => ?_); all_goals (try simp only [Bool.not_eq_true', Bool.not_eq_false'] at h); (all_goals try first | (exact absurd h Bool.false_ne_true) | (exact absurd h.symm Bool.false_ne_true) | (exact absurd h (by decide))))
    | with_reducible refine AWP.skip ?_
    | with_reducible refine AWP.ret ?_
    | with_reducible refine AWP.block ?_
    | with_reducible refine AWP.exit ?_
    | (with_reducible refine ⟨fun h => ?_, fun h => ?_⟩ <;> (try simp only [Bool.not_eq_true', Bool.not_eq_false'] at h) <;> simp only [h, go_sem, Nat.reduceBEq, Nat.reduceBNe, Nat.reduceAdd, Nat.reduceSub, Nat.reduceMul, Nat.reduceLeDiff, Nat.reduceLT, reduceCtorEq, Nat.reduceEqDiff, Int.reduceToNat, Int.reduceLE, Int.reduceLT, Int.reduceEq])
    | (with_reducible refine AWP.parR mixed (by kernel_rfl) fun K hK => ?_)
    | (with_reducible refine Or.inl ?_)
    | (simp only [go_sem, Nat.reduceBEq, Nat.reduceBNe, Nat.reduceAdd, Nat.reduceSub, Nat.reduceMul, Nat.reduceLeDiff, Nat.reduceLT, reduceCtorEq, Nat.reduceEqDiff, Int.reduceToNat, Int.reduceLE, Int.reduceLT, Int.reduceEq])
    | (clear hK K))
  all_goals (first | exact fun _ h => (by cases h) | refine fin0 ?_)
  all_goals rfl
def prodOk (a b : Int) : Bool := decide (IntKind.i64.wrap ((IntKind.i64.wrap (a * b)).tdiv b) = a) && !(decide (a = -1) && decide (b = -9223372036854775808)) && !(decide (b = -1) && decide (a = -9223372036854775808))
def prodR (a b : Int) : Int × Bool := bif decide (a = 0) || decide (b = 0) then (0, true) else (IntKind.i64.wrap (a * b), prodOk a b)
theorem product_c (a b : Int) : PC Try.prog 67 [I .i64 a, I .i64 b] (.tup [I .i64 (prodR a b).1, Bo (prodR a b).2]) := by
  refine PCB.of_body Try.func67 rfl (by decide) Try.ntmps67 Try.results67 rfl rfl rfl ?_ rfl rfl
  repeat' (first
    | ((first | with_reducible refine seqVC_stepN rfl fun K hK => ?_ | with_reducible refine seqVC_stepG rfl (by with_unfolding_all rfl) fun K hK => ?_); (try simp only [go_sem, Nat.reduceBEq, Nat.reduceBNe, Nat.reduceAdd, Nat.reduceSub, Nat.reduceMul, Nat.reduceLeDiff, Nat.reduceLT, reduceCtorEq, Nat.reduceEqDiff, Int.reduceToNat, Int.reduceLE, Int.reduceLT, Int.reduceEq]); all_goals fail_if_success guard_target =ₛ False)
    | with_reducible refine seqVC_nil ?_
    | (with_reducible refine hK _ _ _ ?_; clear hK K)
    | (with_reducible refine hK _ _ ?_; clear hK K)
    | (with_reducible refine hK _ ?_; clear hK K)
    | with_reducible refine AWP.seq fun K hK => ?_
    | (with_reducible refine AWP.seqR (by kernel_rfl) fun K hK => ?_)
    | ((first | with_reducible refine parVC_stepN rfl fun K hK => ?_ | with_reducible refine parVC_stepG rfl (by with_unfolding_all rfl) fun K hK => ?_ | with_reducible refine parEVC_stepN rfl fun K hK => ?_ | with_reducible refine parEVC_stepG rfl (by with_unfolding_all rfl) fun K hK => ?_ | with_reducible refine genVC_stepN rfl fun K hK => ?_ | with_reducible refine genVC_stepG rfl (by with_unfolding_all rfl) fun K hK => ?_); (try simp only [go_sem, Nat.reduceBEq, Nat.reduceBNe, Nat.reduceAdd, Nat.reduceSub, Nat.reduceMul, Nat.reduceLeDiff, Nat.reduceLT, reduceCtorEq, Nat.reduceEqDiff, Int.reduceToNat, Int.reduceLE, Int.reduceLT, Int.reduceEq]); all_goals fail_if_success guard_target =ₛ False)
    | with_reducible refine parVC_nil ?_
    | with_reducible refine parEVC_nil ?_
    | with_reducible refine genVC_nil ?_
    | (with_reducible refine AWP.cond (by with_unfolding_all rfl) (fun h => ?_) (fun h => ?_); all_goals (try simp only [Bool.not_eq_true', Bool.not_eq_false'] at h); (all_goals try first | (exact absurd h Bool.false_ne_true) | (exact absurd h.symm Bool.false_ne_true) | (exact absurd h (by decide))))
    | with_reducible refine AWP.skip ?_
    | with_reducible refine AWP.ret ?_
    | with_reducible refine AWP.block ?_
    | with_reducible refine AWP.exit ?_
    | (with_reducible refine ⟨fun h => ?_, fun h => ?_⟩ <;> (try simp only [Bool.not_eq_true', Bool.not_eq_false'] at h) <;> simp only [h, go_sem, Nat.reduceBEq, Nat.reduceBNe, Nat.reduceAdd, Nat.reduceSub, Nat.reduceMul, Nat.reduceLeDiff, Nat.reduceLT, reduceCtorEq, Nat.reduceEqDiff, Int.reduceToNat, Int.reduceLE, Int.reduceLT, Int.reduceEq])
    | (with_reducible refine ⟨by simpa using ‹decide (b = 0) = false›, ?_⟩)
    | (with_reducible refine AWP.parR mixed (by kernel_rfl) fun K hK => ?_)
    | (with_reducible refine Or.inl ?_)
    | (simp only [go_sem, Nat.reduceBEq, Nat.reduceBNe, Nat.reduceAdd, Nat.reduceSub, Nat.reduceMul, Nat.reduceLeDiff, Nat.reduceLT, reduceCtorEq, Nat.reduceEqDiff, Int.reduceToNat, Int.reduceLE, Int.reduceLT, Int.reduceEq])
    | (clear hK K))
  all_goals (refine fin0 ?_)
  all_goals (simp only [prodR, prodOk, *, cond_true, cond_false, Bool.or_true, Bool.or_false, Bool.true_or, Bool.and_true, Bool.and_false, Bool.true_and, Bool.false_and, Bool.not_true, Bool.not_false])
theorem among_c (l : List (List UInt8)) (s : List UInt8) : PC Try.prog 41 [.one (.dat (.sl 1 (l.map encStr))), S s] (Bo (l.any fun x => decide (x = s))) := by
  refine PCB.of_body Try.func41 rfl (by decide) Try.ntmps41 Try.results41 rfl rfl rfl ?_ rfl rfl
  refine AWP.len 0 rfl fun hlen => ?_
  rw [List.length_map] at hlen
  repeat' (first
    | ((first | with_reducible refine seqVC_stepN rfl fun K hK => ?_ | with_reducible refine seqVC_stepG rfl (by with_unfolding_all rfl) fun K hK => ?_); (try simp only [go_sem, Nat.reduceBEq, Nat.reduceBNe, Nat.reduceAdd, Nat.reduceSub, Nat.reduceMul, Nat.reduceLeDiff, Nat.reduceLT, reduceCtorEq, Nat.reduceEqDiff, Int.reduceToNat, Int.reduceLE, Int.reduceLT, Int.reduceEq, List.length_map]); all_goals fail_if_success guard_target =ₛ False)
    | with_reducible refine seqVC_nil ?_
    | (with_reducible refine hK _ _ _ ?_; clear hK K)
    | (with_reducible refine hK _ _ ?_; clear hK K)
    | (with_reducible refine hK _ ?_; clear hK K)
    | with_reducible refine AWP.seq fun K hK => ?_
    | (with_reducible refine AWP.seqR (by kernel_rfl) fun K hK => ?_)
    | ((first | with_reducible refine parVC_stepN rfl fun K hK => ?_ | with_reducible refine parVC_stepG rfl (by with_unfolding_all rfl) fun K hK => ?_ | with_reducible refine parEVC_stepN rfl fun K hK => ?_ | with_reducible refine parEVC_stepG rfl (by with_unfolding_all rfl) fun K hK => ?_ | with_reducible refine genVC_stepN rfl fun K hK => ?_ | with_reducible refine genVC_stepG rfl (by with_unfolding_all rfl) fun K hK => ?_); (try simp only [go_sem, Nat.reduceBEq, Nat.reduceBNe, Nat.reduceAdd, Nat.reduceSub, Nat.reduceMul, Nat.reduceLeDiff, Nat.reduceLT, reduceCtorEq, Nat.reduceEqDiff, Int.reduceToNat, Int.reduceLE, Int.reduceLT, Int.reduceEq, List.length_map]); all_goals fail_if_success guard_target =ₛ False)
    | with_reducible refine parVC_nil ?_
    | with_reducible refine parEVC_nil ?_
    | with_reducible refine genVC_nil ?_
    | (with_reducible refine AWP.cond (by with_unfolding_all rfl) (fun h => ?_) (fun h => ?_); all_goals (try simp only [Bool.not_eq_true', Bool.not_eq_false'] at h); (all_goals try first | (exact absurd h Bool.false_ne_true) | (exact absurd h.symm Bool.false_ne_true) | (exact absurd h (by decide))))
    | with_reducible refine AWP.skip ?_
    | with_reducible refine AWP.ret ?_
    | with_reducible refine AWP.block ?_
    | with_reducible refine AWP.exit ?_
    | (with_reducible refine ⟨fun h => ?_, fun h => ?_⟩ <;> (try simp only [Bool.not_eq_true', Bool.not_eq_false'] at h) <;> simp only [h, go_sem, Nat.reduceBEq, Nat.reduceBNe, Nat.reduceAdd, Nat.reduceSub, Nat.reduceMul, Nat.reduceLeDiff, Nat.reduceLT, reduceCtorEq, Nat.reduceEqDiff, Int.reduceToNat, Int.reduceLE, Int.reduceLT, Int.reduceEq, List.length_map])
    | (with_reducible refine AWP.parR mixed (by kernel_rfl) fun K hK => ?_)
    | (with_reducible refine Or.inl ?_)
    | (simp only [go_sem, Nat.reduceBEq, Nat.reduceBNe, Nat.reduceAdd, Nat.reduceSub, Nat.reduceMul, Nat.reduceLeDiff, Nat.reduceLT, reduceCtorEq, Nat.reduceEqDiff, Int.reduceToNat, Int.reduceLE, Int.reduceLT, Int.reduceEq, List.length_map])
    | (clear hK K))
  refine AWP.loopS (X := Nat × Unit) (fun x => [(9, I .i64 x.1), (8, I .i64 l.length), (7, .one (.dat (.sl 1 (l.map encStr)))), (1, S s)]) (fun _ => [])
      (fun x => x.1 ≤ l.length ∧ (l.any fun x => decide (x = s)) = ((l.drop x.1).any fun x => decide (x = s))) (fun x => l.length - x.1) (0, ()) (Gh.to [] (by repeat (first | exact trivial | refine ⟨rfl, ?_⟩ | refine ⟨by (simp only [go_sem, Nat.reduceBEq, Nat.reduceBNe, Nat.reduceAdd, Nat.reduceSub, Nat.reduceMul, Nat.reduceLeDiff, Nat.reduceLT, reduceCtorEq, Nat.reduceEqDiff, Int.reduceToNat, Int.reduceLE, Int.reduceLT, Int.reduceEq]) <;> rfl, ?_⟩)) (by repeat (first | exact trivial | refine ⟨rfl, ?_⟩ | refine ⟨by (simp only [go_sem, Nat.reduceBEq, Nat.reduceBNe, Nat.reduceAdd, Nat.reduceSub, Nat.reduceMul, Nat.reduceLeDiff, Nat.reduceLT, reduceCtorEq, Nat.reduceEqDiff, Int.reduceToNat, Int.reduceLE, Int.reduceLT, Int.reduceEq]) <;> rfl, ?_⟩)) rfl rfl rfl) ⟨Nat.zero_le _, rfl⟩ ?_
  rintro ⟨k, u⟩ ⟨hk, hp⟩
  simp only at hk hp
  by_cases hlt : k < l.length
  · obtain ⟨x, hx, hx', hb, hdx⟩ := at_lt (enc := encStr) hlt
    rw [hdx, List.any_cons] at hp
    cases hz : decide (x = s)
    ·
      repeat' (first
        | ((first | with_reducible refine seqVC_stepN rfl fun K hK => ?_ | with_reducible refine seqVC_stepG rfl (by with_unfolding_all rfl) fun K hK => ?_); (try simp only [go_sem, Nat.reduceBEq, Nat.reduceBNe, Nat.reduceAdd, Nat.reduceSub, Nat.reduceMul, Nat.reduceLeDiff, Nat.reduceLT, reduceCtorEq, Nat.reduceEqDiff, Int.reduceToNat, Int.reduceLE, Int.reduceLT, Int.reduceEq, List.length_map, hb, hz, encStr]); all_goals fail_if_success guard_target =ₛ False)
        | with_reducible refine seqVC_nil ?_
        | (with_reducible refine hK _ _ _ ?_; clear hK K)
        | (with_reducible refine hK _ _ ?_; clear hK K)
        | (with_reducible refine hK _ ?_; clear hK K)
        | with_reducible refine AWP.seq fun K hK => ?_
        | (with_reducible refine AWP.seqR (by kernel_rfl) fun K hK => ?_)
        | ((first | with_reducible refine parVC_stepN rfl fun K hK => ?_ | with_reducible refine parVC_stepG rfl (by with_unfolding_all rfl) fun K hK => ?_ | with_reducible refine parEVC_stepN rfl fun K hK => ?_ | with_reducible refine parEVC_stepG rfl (by with_unfolding_all rfl) fun K hK => ?_ | with_reducible refine genVC_stepN rfl fun K hK => ?_ | with_reducible refine genVC_stepG rfl (by with_unfolding_all rfl) fun K hK => ?_); (try simp only [go_sem, Nat.reduceBEq, Nat.reduceBNe, Nat.reduceAdd, Nat.reduceSub, Nat.reduceMul, Nat.reduceLeDiff, Nat.reduceLT, reduceCtorEq, Nat.reduceEqDiff, Int.reduceToNat, Int.reduceLE, Int.reduceLT, Int.reduceEq, List.length_map, hb, hz, encStr]); all_goals fail_if_success guard_target =ₛ False)
        | with_reducible refine parVC_nil ?_
        | with_reducible refine parEVC_nil ?_
        | with_reducible refine genVC_nil ?_
        | (with_reducible refine AWP.cond (by with_unfolding_all rfl) (fun h => ?_) (fun h => ?_); all_goals (try simp only [Bool.not_eq_true', Bool.not_eq_false'] at h); (all_goals try first | (exact absurd h Bool.false_ne_true) | (exact absurd h.symm Bool.false_ne_true) | (exact absurd h (by decide))))
        | with_reducible refine AWP.skip ?_
        | with_reducible refine AWP.ret ?_
        | with_reducible refine AWP.block ?_
        | with_reducible refine AWP.exit ?_
        | (with_reducible refine ⟨fun h => ?_, fun h => ?_⟩ <;> (try simp only [Bool.not_eq_true', Bool.not_eq_false'] at h) <;> simp only [h, go_sem, Nat.reduceBEq, Nat.reduceBNe, Nat.reduceAdd, Nat.reduceSub, Nat.reduceMul, Nat.reduceLeDiff, Nat.reduceLT, reduceCtorEq, Nat.reduceEqDiff, Int.reduceToNat, Int.reduceLE, Int.reduceLT, Int.reduceEq, List.length_map, hb, hz, encStr])
        | (with_reducible refine ⟨by omega, encStr x, hx', ?_⟩)
        | (with_reducible refine AWP.parR mixed (by kernel_rfl) fun K hK => ?_)
        | (with_reducible refine Or.inl ?_)
        | (simp only [go_sem, Nat.reduceBEq, Nat.reduceBNe, Nat.reduceAdd, Nat.reduceSub, Nat.reduceMul, Nat.reduceLeDiff, Nat.reduceLT, reduceCtorEq, Nat.reduceEqDiff, Int.reduceToNat, Int.reduceLE, Int.reduceLT, Int.reduceEq, List.length_map, hb, hz, encStr])
        | (clear hK K))
      all_goals (rw [hz, Bool.false_or] at hp)
      all_goals (rw [wrap_succ hlt hlen])
      all_goals (refine ⟨(k + 1, ()), by simp only; omega, ⟨by simp only; omega, hp⟩, Gh.to [] (by repeat (first | exact trivial | refine ⟨rfl, ?_⟩ | refine ⟨by (simp only [go_sem, Nat.reduceBEq, Nat.reduceBNe, Nat.reduceAdd, Nat.reduceSub, Nat.reduceMul, Nat.reduceLeDiff, Nat.reduceLT, reduceCtorEq, Nat.reduceEqDiff, Int.reduceToNat, Int.reduceLE, Int.reduceLT, Int.reduceEq]) <;> rfl, ?_⟩)) (by repeat (first | exact trivial | refine ⟨rfl, ?_⟩ | refine ⟨by (simp only [go_sem, Nat.reduceBEq, Nat.reduceBNe, Nat.reduceAdd, Nat.reduceSub, Nat.reduceMul, Nat.reduceLeDiff, Nat.reduceLT, reduceCtorEq, Nat.reduceEqDiff, Int.reduceToNat, Int.reduceLE, Int.reduceLT, Int.reduceEq]) <;> rfl, ?_⟩)) rfl rfl rfl⟩)
    ·
      repeat' (first
        | ((first | with_reducible refine seqVC_stepN rfl fun K hK => ?_ | with_reducible refine seqVC_stepG rfl (by with_unfolding_all rfl) fun K hK => ?_); (try simp only [go_sem, Nat.reduceBEq, Nat.reduceBNe, Nat.reduceAdd, Nat.reduceSub, Nat.reduceMul, Nat.reduceLeDiff, Nat.reduceLT, reduceCtorEq, Nat.reduceEqDiff, Int.reduceToNat, Int.reduceLE, Int.reduceLT, Int.reduceEq, List.length_map, hb, hz, encStr]); all_goals fail_if_success guard_target =ₛ False)
        | with_reducible refine seqVC_nil ?_
        | (with_reducible refine hK _ _ _ ?_; clear hK K)
        | (with_reducible refine hK _ _ ?_; clear hK K)
        | (with_reducible refine hK _ ?_; clear hK K)
        | with_reducible refine AWP.seq fun K hK => ?_
        | (with_reducible refine AWP.seqR (by kernel_rfl) fun K hK => ?_)
        | ((first | with_reducible refine parVC_stepN rfl fun K hK => ?_ | with_reducible refine parVC_stepG rfl (by with_unfolding_all rfl) fun K hK => ?_ | with_reducible refine parEVC_stepN rfl fun K hK => ?_ | with_reducible refine parEVC_stepG rfl (by with_unfolding_all rfl) fun K hK => ?_ | with_reducible refine genVC_stepN rfl fun K hK => ?_ | with_reducible refine genVC_stepG rfl (by with_unfolding_all rfl) fun K hK => ?_); (try simp only [go_sem, Nat.reduceBEq, Nat.reduceBNe, Nat.reduceAdd, Nat.reduceSub, Nat.reduceMul, Nat.reduceLeDiff, Nat.reduceLT, reduceCtorEq, Nat.reduceEqDiff, Int.reduceToNat, Int.reduceLE, Int.reduceLT, Int.reduceEq, List.length_map, hb, hz, encStr]); all_goals fail_if_success guard_target =ₛ False)
        | with_reducible refine parVC_nil ?_
        | with_reducible refine parEVC_nil ?_
        | with_reducible refine genVC_nil ?_
        | (with_reducible refine AWP.cond (by with_unfolding_all rfl) (fun h => ?_) (fun h => ?_); all_goals (try simp only [Bool.not_eq_true', Bool.not_eq_false'] at h); (all_goals try first | (exact absurd h Bool.false_ne_true) | (exact absurd h.symm Bool.false_ne_true) | (exact absurd h (by decide))))
        | with_reducible refine AWP.skip ?_
        | with_reducible refine AWP.ret ?_
        | with_reducible refine AWP.block ?_
        | with_reducible refine AWP.exit ?_
        | (with_reducible refine ⟨fun h => ?_, fun h => ?_⟩ <;> (try simp only [Bool.not_eq_true', Bool.not_eq_false'] at h) <;> simp only [h, go_sem, Nat.reduceBEq, Nat.reduceBNe, Nat.reduceAdd, Nat.reduceSub, Nat.reduceMul, Nat.reduceLeDiff, Nat.reduceLT, reduceCtorEq, Nat.reduceEqDiff, Int.reduceToNat, Int.reduceLE, Int.reduceLT, Int.reduceEq, List.length_map, hb, hz, encStr])
        | (with_reducible refine ⟨by omega, encStr x, hx', ?_⟩)
        | (with_reducible refine AWP.parR mixed (by kernel_rfl) fun K hK => ?_)
        | (with_reducible refine Or.inl ?_)
        | (simp only [go_sem, Nat.reduceBEq, Nat.reduceBNe, Nat.reduceAdd, Nat.reduceSub, Nat.reduceMul, Nat.reduceLeDiff, Nat.reduceLT, reduceCtorEq, Nat.reduceEqDiff, Int.reduceToNat, Int.reduceLE, Int.reduceLT, Int.reduceEq, List.length_map, hb, hz, encStr])
        | (clear hK K))
      all_goals (refine fin0 ?_; simp only [hp, hz, Bool.true_or])
  · obtain ⟨hb, hdx⟩ := at_ge hlt
    rw [hdx, List.any_nil] at hp
    repeat' (first
      | ((first | with_reducible refine seqVC_stepN rfl fun K hK => ?_ | with_reducible refine seqVC_stepG rfl (by with_unfolding_all rfl) fun K hK => ?_); (try simp only [go_sem, Nat.reduceBEq, Nat.reduceBNe, Nat.reduceAdd, Nat.reduceSub, Nat.reduceMul, Nat.reduceLeDiff, Nat.reduceLT, reduceCtorEq, Nat.reduceEqDiff, Int.reduceToNat, Int.reduceLE, Int.reduceLT, Int.reduceEq, List.length_map, hb]); all_goals fail_if_success guard_target =ₛ False)
      | with_reducible refine seqVC_nil ?_
      | (with_reducible refine hK _ _ _ ?_; clear hK K)
      | (with_reducible refine hK _ _ ?_; clear hK K)
      | (with_reducible refine hK _ ?_; clear hK K)
      | with_reducible refine AWP.seq fun K hK => ?_
      | (with_reducible refine AWP.seqR (by kernel_rfl) fun K hK => ?_)
      | ((first | with_reducible refine parVC_stepN rfl fun K hK => ?_ | with_reducible refine parVC_stepG rfl (by with_unfolding_all rfl) fun K hK => ?_ | with_reducible refine parEVC_stepN rfl fun K hK => ?_ | with_reducible refine parEVC_stepG rfl (by with_unfolding_all rfl) fun K hK => ?_ | with_reducible refine genVC_stepN rfl fun K hK => ?_ | with_reducible refine genVC_stepG rfl (by with_unfolding_all rfl) fun K hK => ?_); (try simp only [go_sem, Nat.reduceBEq, Nat.reduceBNe, Nat.reduceAdd, Nat.reduceSub, Nat.reduceMul, Nat.reduceLeDiff, Nat.reduceLT, reduceCtorEq, Nat.reduceEqDiff, Int.reduceToNat, Int.reduceLE, Int.reduceLT, Int.reduceEq, List.length_map, hb]); all_goals fail_if_success guard_target =ₛ False)
      | with_reducible refine parVC_nil ?_
      | with_reducible refine parEVC_nil ?_
      | with_reducible refine genVC_nil ?_
      | (with_reducible refine AWP.cond (by with_unfolding_all rfl) (fun h => ?_) (fun h => ?_); all_goals (try simp only [Bool.not_eq_true', Bool.not_eq_false'] at h); (all_goals try first | (exact absurd h Bool.false_ne_true) | (exact absurd h.symm Bool.false_ne_true) | (exact absurd h (by decide))))
      | with_reducible refine AWP.skip ?_
      | with_reducible refine AWP.ret ?_
      | with_reducible refine AWP.block ?_
      | with_reducible refine AWP.exit ?_
      | (with_reducible refine ⟨fun h => ?_, fun h => ?_⟩ <;> (try simp only [Bool.not_eq_true', Bool.not_eq_false'] at h) <;> simp only [h, go_sem, Nat.reduceBEq, Nat.reduceBNe, Nat.reduceAdd, Nat.reduceSub, Nat.reduceMul, Nat.reduceLeDiff, Nat.reduceLT, reduceCtorEq, Nat.reduceEqDiff, Int.reduceToNat, Int.reduceLE, Int.reduceLT, Int.reduceEq, List.length_map, hb])
      | (with_reducible refine AWP.parR mixed (by kernel_rfl) fun K hK => ?_)
      | (with_reducible refine Or.inl ?_)
      | (simp only [go_sem, Nat.reduceBEq, Nat.reduceBNe, Nat.reduceAdd, Nat.reduceSub, Nat.reduceMul, Nat.reduceLeDiff, Nat.reduceLT, reduceCtorEq, Nat.reduceEqDiff, Int.reduceToNat, Int.reduceLE, Int.reduceLT, Int.reduceEq, List.length_map, hb])
      | (clear hK K))
    all_goals (refine fin0 ?_; simp only [hp])

def arithR (op : List UInt8) (a b : Int) : Int × List UInt8 :=
  bif decide (op = [43]) then (bif !(decide (a < IntKind.i64.wrap (a + b)) == decide (0 < b)) then (0, sOver) else (IntKind.i64.wrap (a + b), [])) else
  bif decide (op = [45]) then (bif !(decide (IntKind.i64.wrap (a - b) < a) == decide (0 < b)) then (0, sOver) else (IntKind.i64.wrap (a - b), [])) else
  bif decide (op = [42]) then (bif !(prodR a b).2 then (0, sOver) else ((prodR a b).1, [])) else
  bif decide (b = 0) then (0, sZero) else
  bif decide (a = -9223372036854775808) && decide (b = -1) then (0, sOver) else
  bif decide (op = [100, 105, 118]) then (IntKind.i64.wrap (a.tdiv b), []) else (a.tmod b, [])
theorem arithmetic_c (op : List UInt8) (a b : Int) : PC Try.prog 42 [S op, I .i64 a, I .i64 b] (.tup [I .i64 (arithR op a b).1, S (arithR op a b).2]) := by
  refine PCB.of_body Try.func42 rfl (by decide) Try.ntmps42 Try.results42 rfl rfl rfl ?_ rfl rfl
  cases h1 : decide (op = [43]) with
  | true =>
    cases h2 : (decide (a < IntKind.i64.wrap (a + b)) == decide (0 < b))
    repeat' (first
      | ((first | with_reducible refine seqVC_stepN rfl fun K hK => ?_ | with_reducible refine seqVC_stepG rfl (by with_unfolding_all rfl) fun K hK => ?_); (try simp only [go_sem, Nat.reduceBEq, Nat.reduceBNe, Nat.reduceAdd, Nat.reduceSub, Nat.reduceMul, Nat.reduceLeDiff, Nat.reduceLT, reduceCtorEq, Nat.reduceEqDiff, Int.reduceToNat, Int.reduceLE, Int.reduceLT, Int.reduceEq, h1, h2]); all_goals fail_if_success guard_target =ₛ False)
      | with_reducible refine seqVC_nil ?_
      | (with_reducible refine hK _ _ _ ?_; clear hK K)
      | (with_reducible refine hK _ _ ?_; clear hK K)
      | (with_reducible refine hK _ ?_; clear hK K)
      | with_reducible refine AWP.seq fun K hK => ?_
      | (with_reducible refine AWP.seqR (by kernel_rfl) fun K hK => ?_)
      | ((first | with_reducible refine parVC_stepN rfl fun K hK => ?_ | with_reducible refine parVC_stepG rfl (by with_unfolding_all rfl) fun K hK => ?_ | with_reducible refine parEVC_stepN rfl fun K hK => ?_ | with_reducible refine parEVC_stepG rfl (by with_unfolding_all rfl) fun K hK => ?_ | with_reducible refine genVC_stepN rfl fun K hK => ?_ | with_reducible refine genVC_stepG rfl (by with_unfolding_all rfl) fun K hK => ?_); (try simp only [go_sem, Nat.reduceBEq, Nat.reduceBNe, Nat.reduceAdd, Nat.reduceSub, Nat.reduceMul, Nat.reduceLeDiff, Nat.reduceLT, reduceCtorEq, Nat.reduceEqDiff, Int.reduceToNat, Int.reduceLE, Int.reduceLT, Int.reduceEq, h1, h2]); all_goals fail_if_success guard_target =ₛ False)
      | with_reducible refine parVC_nil ?_
      | with_reducible refine parEVC_nil ?_
      | with_reducible refine genVC_nil ?_
      | (with_reducible refine AWP.cond (by with_unfolding_all rfl) (fun h => ?_) (fun h => ?_); all_goals (try simp only [Bool.not_eq_true', Bool.not_eq_false'] at h); (all_goals try first | (exact absurd h Bool.false_ne_true) | (exact absurd h.symm Bool.false_ne_true) | (exact absurd h (by decide))))
      | with_reducible refine AWP.skip ?_
      | with_reducible refine AWP.ret ?_
      | with_reducible refine AWP.block ?_
      | with_reducible refine AWP.exit ?_
      | (with_reducible refine ⟨fun h => ?_, fun h => ?_⟩ <;> (try simp only [Bool.not_eq_true', Bool.not_eq_false'] at h) <;> simp only [h, go_sem, Nat.reduceBEq, Nat.reduceBNe, Nat.reduceAdd, Nat.reduceSub, Nat.reduceMul, Nat.reduceLeDiff, Nat.reduceLT, reduceCtorEq, Nat.reduceEqDiff, Int.reduceToNat, Int.reduceLE, Int.reduceLT, Int.reduceEq, h1, h2])
      | ((first | (with_reducible refine ⟨_, sum_c _ _, ?_⟩)); try simp only [go_sem, Nat.reduceBEq, Nat.reduceBNe, Nat.reduceAdd, Nat.reduceSub, Nat.reduceMul, Nat.reduceLeDiff, Nat.reduceLT, reduceCtorEq, Nat.reduceEqDiff, Int.reduceToNat, Int.reduceLE, Int.reduceLT, Int.reduceEq, h1, h2])
      | (with_reducible refine AWP.parR mixed (by kernel_rfl) fun K hK => ?_)
      | (with_reducible refine Or.inl ?_)
      | (simp only [go_sem, Nat.reduceBEq, Nat.reduceBNe, Nat.reduceAdd, Nat.reduceSub, Nat.reduceMul, Nat.reduceLeDiff, Nat.reduceLT, reduceCtorEq, Nat.reduceEqDiff, Int.reduceToNat, Int.reduceLE, Int.reduceLT, Int.reduceEq, h1, h2])
      | (clear hK K))
    all_goals (refine fin0 ?_; simp only [arithR, h1, h2, cond_true, cond_false, Bool.not_true, Bool.not_false, sOver])
  | false =>
  cases h3 : decide (op = [45]) with
  | true =>
    cases h2 : (decide (IntKind.i64.wrap (a - b) < a) == decide (0 < b))
    repeat' (first
      | ((first | with_reducible refine seqVC_stepN rfl fun K hK => ?_ | with_reducible refine seqVC_stepG rfl (by with_unfolding_all rfl) fun K hK => ?_); (try simp only [go_sem, Nat.reduceBEq, Nat.reduceBNe, Nat.reduceAdd, Nat.reduceSub, Nat.reduceMul, Nat.reduceLeDiff, Nat.reduceLT, reduceCtorEq, Nat.reduceEqDiff, Int.reduceToNat, Int.reduceLE, Int.reduceLT, Int.reduceEq, h1, h2, h3, gt_iff_lt]); all_goals fail_if_success guard_target =ₛ False)
      | with_reducible refine seqVC_nil ?_
      | (with_reducible refine hK _ _ _ ?_; clear hK K)
      | (with_reducible refine hK _ _ ?_; clear hK K)
      | (with_reducible refine hK _ ?_; clear hK K)
      | with_reducible refine AWP.seq fun K hK => ?_
      | (with_reducible refine AWP.seqR (by kernel_rfl) fun K hK => ?_)
      | ((first | with_reducible refine parVC_stepN rfl fun K hK => ?_ | with_reducible refine parVC_stepG rfl (by with_unfolding_all rfl) fun K hK => ?_ | with_reducible refine parEVC_stepN rfl fun K hK => ?_ | with_reducible refine parEVC_stepG rfl (by with_unfolding_all rfl) fun K hK => ?_ | with_reducible refine genVC_stepN rfl fun K hK => ?_ | with_reducible refine genVC_stepG rfl (by with_unfolding_all rfl) fun K hK => ?_); (try simp only [go_sem, Nat.reduceBEq, Nat.reduceBNe, Nat.reduceAdd, Nat.reduceSub, Nat.reduceMul, Nat.reduceLeDiff, Nat.reduceLT, reduceCtorEq, Nat.reduceEqDiff, Int.reduceToNat, Int.reduceLE, Int.reduceLT, Int.reduceEq, h1, h2, h3, gt_iff_lt]); all_goals fail_if_success guard_target =ₛ False)
      | with_reducible refine parVC_nil ?_
      | with_reducible refine parEVC_nil ?_
      | with_reducible refine genVC_nil ?_
      | (with_reducible refine AWP.cond (by with_unfolding_all rfl) (fun h => ?_) (fun h => ?_); all_goals (try simp only [Bool.not_eq_true', Bool.not_eq_false'] at h); (all_goals try first | (exact absurd h Bool.false_ne_true) | (exact absurd h.symm Bool.false_ne_true) | (exact absurd h (by decide))))
      | with_reducible refine AWP.skip ?_
      | with_reducible refine AWP.ret ?_
      | with_reducible refine AWP.block ?_
      | with_reducible refine AWP.exit ?_
      | (with_reducible refine ⟨fun h => ?_, fun h => ?_⟩ <;> (try simp only [Bool.not_eq_true', Bool.not_eq_false'] at h) <;> simp only [h, go_sem, Nat.reduceBEq, Nat.reduceBNe, Nat.reduceAdd, Nat.reduceSub, Nat.reduceMul, Nat.reduceLeDiff, Nat.reduceLT, reduceCtorEq, Nat.reduceEqDiff, Int.reduceToNat, Int.reduceLE, Int.reduceLT, Int.reduceEq, h1, h2, h3, gt_iff_lt])
      | (with_reducible refine AWP.parR mixed (by kernel_rfl) fun K hK => ?_)
      | (with_reducible refine Or.inl ?_)
      | (simp only [go_sem, Nat.reduceBEq, Nat.reduceBNe, Nat.reduceAdd, Nat.reduceSub, Nat.reduceMul, Nat.reduceLeDiff, Nat.reduceLT, reduceCtorEq, Nat.reduceEqDiff, Int.reduceToNat, Int.reduceLE, Int.reduceLT, Int.reduceEq, h1, h2, h3, gt_iff_lt])
      | (clear hK K))
    all_goals (refine fin0 ?_; simp only [arithR, h1, h2, h3, cond_true, cond_false, Bool.not_true, Bool.not_false, sOver])
  | false =>
  cases h4 : decide (op = [42]) with
  | true =>
    cases h2 : (prodR a b).2
    repeat' (first
      | ((first | with_reducible refine seqVC_stepN rfl fun K hK => ?_ | with_reducible refine seqVC_stepG rfl (by with_unfolding_all rfl) fun K hK => ?_); (try simp only [go_sem, Nat.reduceBEq, Nat.reduceBNe, Nat.reduceAdd, Nat.reduceSub, Nat.reduceMul, Nat.reduceLeDiff, Nat.reduceLT, reduceCtorEq, Nat.reduceEqDiff, Int.reduceToNat, Int.reduceLE, Int.reduceLT, Int.reduceEq, h1, h2, h3, h4]); all_goals fail_if_success guard_target =ₛ False)
      | with_reducible refine seqVC_nil ?_
      | (with_reducible refine hK _ _ _ ?_; clear hK K)
      | (with_reducible refine hK _ _ ?_; clear hK K)
      | (with_reducible refine hK _ ?_; clear hK K)
      | with_reducible refine AWP.seq fun K hK => ?_
      | (with_reducible refine AWP.seqR (by kernel_rfl) fun K hK => ?_)
      | ((first | with_reducible refine parVC_stepN rfl fun K hK => ?_ | with_reducible refine parVC_stepG rfl (by with_unfolding_all rfl) fun K hK => ?_ | with_reducible refine parEVC_stepN rfl fun K hK => ?_ | with_reducible refine parEVC_stepG rfl (by with_unfolding_all rfl) fun K hK => ?_ | with_reducible refine genVC_stepN rfl fun K hK => ?_ | with_reducible refine genVC_stepG rfl (by with_unfolding_all rfl) fun K hK => ?_); (try simp only [go_sem, Nat.reduceBEq, Nat.reduceBNe, Nat.reduceAdd, Nat.reduceSub, Nat.reduceMul, Nat.reduceLeDiff, Nat.reduceLT, reduceCtorEq, Nat.reduceEqDiff, Int.reduceToNat, Int.reduceLE, Int.reduceLT, Int.reduceEq, h1, h2, h3, h4]); all_goals fail_if_success guard_target =ₛ False)
      | with_reducible refine parVC_nil ?_
      | with_reducible refine parEVC_nil ?_
      | with_reducible refine genVC_nil ?_
      | (with_reducible refine AWP.cond (by with_unfolding_all rfl) (fun h => ?_) (fun h => ?_); all_goals (try simp only [Bool.not_eq_true', Bool.not_eq_false'] at h); (all_goals try first | (exact absurd h Bool.false_ne_true) | (exact absurd h.symm Bool.false_ne_true) | (exact absurd h (by decide))))
      | with_reducible refine AWP.skip ?_
      | with_reducible refine AWP.ret ?_
      | with_reducible refine AWP.block ?_
      | with_reducible refine AWP.exit ?_
      | (with_reducible refine ⟨fun h => ?_, fun h => ?_⟩ <;> (try simp only [Bool.not_eq_true', Bool.not_eq_false'] at h) <;> simp only [h, go_sem, Nat.reduceBEq, Nat.reduceBNe, Nat.reduceAdd, Nat.reduceSub, Nat.reduceMul, Nat.reduceLeDiff, Nat.reduceLT, reduceCtorEq, Nat.reduceEqDiff, Int.reduceToNat, Int.reduceLE, Int.reduceLT, Int.reduceEq, h1, h2, h3, h4])
      | ((first | (with_reducible refine ⟨_, product_c _ _, ?_⟩)); try simp only [go_sem, Nat.reduceBEq, Nat.reduceBNe, Nat.reduceAdd, Nat.reduceSub, Nat.reduceMul, Nat.reduceLeDiff, Nat.reduceLT, reduceCtorEq, Nat.reduceEqDiff, Int.reduceToNat, Int.reduceLE, Int.reduceLT, Int.reduceEq, h1, h2, h3, h4])
      | (with_reducible refine AWP.parR mixed (by kernel_rfl) fun K hK => ?_)
      | (with_reducible refine Or.inl ?_)
      | (simp only [go_sem, Nat.reduceBEq, Nat.reduceBNe, Nat.reduceAdd, Nat.reduceSub, Nat.reduceMul, Nat.reduceLeDiff, Nat.reduceLT, reduceCtorEq, Nat.reduceEqDiff, Int.reduceToNat, Int.reduceLE, Int.reduceLT, Int.reduceEq, h1, h2, h3, h4])
      | (clear hK K))
    all_goals (refine fin0 ?_; simp only [arithR, h1, h2, h3, h4, cond_true, cond_false, Bool.not_true, Bool.not_false, sOver])
  | false =>
  cases h5 : decide (b = 0) with
  | true =>
    repeat' (first
      | ((first | with_reducible refine seqVC_stepN rfl fun K hK => ?_ | with_reducible refine seqVC_stepG rfl (by with_unfolding_all rfl) fun K hK => ?_); (try simp only [go_sem, Nat.reduceBEq, Nat.reduceBNe, Nat.reduceAdd, Nat.reduceSub, Nat.reduceMul, Nat.reduceLeDiff, Nat.reduceLT, reduceCtorEq, Nat.reduceEqDiff, Int.reduceToNat, Int.reduceLE, Int.reduceLT, Int.reduceEq, h1, h3, h4, h5]); all_goals fail_if_success guard_target =ₛ False)
      | with_reducible refine seqVC_nil ?_
      | (with_reducible refine hK _ _ _ ?_; clear hK K)
      | (with_reducible refine hK _ _ ?_; clear hK K)
      | (with_reducible refine hK _ ?_; clear hK K)
      | with_reducible refine AWP.seq fun K hK => ?_
      | (with_reducible refine AWP.seqR (by kernel_rfl) fun K hK => ?_)
      | ((first | with_reducible refine parVC_stepN rfl fun K hK => ?_ | with_reducible refine parVC_stepG rfl (by with_unfolding_all rfl) fun K hK => ?_ | with_reducible refine parEVC_stepN rfl fun K hK => ?_ | with_reducible refine parEVC_stepG rfl (by with_unfolding_all rfl) fun K hK => ?_ | with_reducible refine genVC_stepN rfl fun K hK => ?_ | with_reducible refine genVC_stepG rfl (by with_unfolding_all rfl) fun K hK => ?_); (try simp only [go_sem, Nat.reduceBEq, Nat.reduceBNe, Nat.reduceAdd, Nat.reduceSub, Nat.reduceMul, Nat.reduceLeDiff, Nat.reduceLT, reduceCtorEq, Nat.reduceEqDiff, Int.reduceToNat, Int.reduceLE, Int.reduceLT, Int.reduceEq, h1, h3, h4, h5]); all_goals fail_if_success guard_target =ₛ False)
      | with_reducible refine parVC_nil ?_
      | with_reducible refine parEVC_nil ?_
      | with_reducible refine genVC_nil ?_
      | (with_reducible refine AWP.cond (by with_unfolding_all rfl) (fun h => ?_) (fun h => ?_); all_goals (try simp only [Bool.not_eq_true', Bool.not_eq_false'] at h); (all_goals try first | (exact absurd h Bool.false_ne_true) | (exact absurd h.symm Bool.false_ne_true) | (exact absurd h (by decide))))
      | with_reducible refine AWP.skip ?_
      | with_reducible refine AWP.ret ?_
      | with_reducible refine AWP.block ?_
      | with_reducible refine AWP.exit ?_
      | (with_reducible refine ⟨fun h => ?_, fun h => ?_⟩ <;> (try simp only [Bool.not_eq_true', Bool.not_eq_false'] at h) <;> simp only [h, go_sem, Nat.reduceBEq, Nat.reduceBNe, Nat.reduceAdd, Nat.reduceSub, Nat.reduceMul, Nat.reduceLeDiff, Nat.reduceLT, reduceCtorEq, Nat.reduceEqDiff, Int.reduceToNat, Int.reduceLE, Int.reduceLT, Int.reduceEq, h1, h3, h4, h5])
      | (with_reducible refine AWP.parR mixed (by kernel_rfl) fun K hK => ?_)
      | (with_reducible refine Or.inl ?_)
      | (simp only [go_sem, Nat.reduceBEq, Nat.reduceBNe, Nat.reduceAdd, Nat.reduceSub, Nat.reduceMul, Nat.reduceLeDiff, Nat.reduceLT, reduceCtorEq, Nat.reduceEqDiff, Int.reduceToNat, Int.reduceLE, Int.reduceLT, Int.reduceEq, h1, h3, h4, h5])
      | (clear hK K))
    all_goals (refine fin0 ?_; simp only [arithR, h1, h3, h4, h5, cond_true, cond_false, Bool.not_true, Bool.not_false, sZero])
  | false =>
  have hb0 : b ≠ 0 := by simpa using h5
  cases h6 : decide (a = -9223372036854775808) <;> cases h7 : decide (b = -1) <;> cases h8 : decide (op = [100, 105, 118])
  repeat' (first
    | ((first | with_reducible refine seqVC_stepN rfl fun K hK => ?_ | with_reducible refine seqVC_stepG rfl (by with_unfolding_all rfl) fun K hK => ?_); (try simp only [go_sem, Nat.reduceBEq, Nat.reduceBNe, Nat.reduceAdd, Nat.reduceSub, Nat.reduceMul, Nat.reduceLeDiff, Nat.reduceLT, reduceCtorEq, Nat.reduceEqDiff, Int.reduceToNat, Int.reduceLE, Int.reduceLT, Int.reduceEq, h1, h3, h4, h5, h6, h7, h8]); all_goals fail_if_success guard_target =ₛ False)
    | with_reducible refine seqVC_nil ?_
    | (with_reducible refine hK _ _ _ ?_; clear hK K)
    | (with_reducible refine hK _ _ ?_; clear hK K)
    | (with_reducible refine hK _ ?_; clear hK K)
    | with_reducible refine AWP.seq fun K hK => ?_
    | (with_reducible refine AWP.seqR (by kernel_rfl) fun K hK => ?_)
    | ((first | with_reducible refine parVC_stepN rfl fun K hK => ?_ | with_reducible refine parVC_stepG rfl (by with_unfolding_all rfl) fun K hK => ?_ | with_reducible refine parEVC_stepN rfl fun K hK => ?_ | with_reducible refine parEVC_stepG rfl (by with_unfolding_all rfl) fun K hK => ?_ | with_reducible refine genVC_stepN rfl fun K hK => ?_ | with_reducible refine genVC_stepG rfl (by with_unfolding_all rfl) fun K hK => ?_); (try simp only [go_sem, Nat.reduceBEq, Nat.reduceBNe, Nat.reduceAdd, Nat.reduceSub, Nat.reduceMul, Nat.reduceLeDiff, Nat.reduceLT, reduceCtorEq, Nat.reduceEqDiff, Int.reduceToNat, Int.reduceLE, Int.reduceLT, Int.reduceEq, h1, h3, h4, h5, h6, h7, h8]); all_goals fail_if_success guard_target =ₛ False)
    | with_reducible refine parVC_nil ?_
    | with_reducible refine parEVC_nil ?_
    | with_reducible refine genVC_nil ?_
    | (with_reducible refine AWP.cond (by with_unfolding_all rfl) (fun h => ?_) (fun h => ?_); all_goals (try simp only [Bool.not_eq_true', Bool.not_eq_false'] at h); (all_goals try first | (exact absurd h Bool.false_ne_true) | (exact absurd h.symm Bool.false_ne_true) | (exact absurd h (by decide))))
    | with_reducible refine AWP.skip ?_
    | with_reducible refine AWP.ret ?_
    | with_reducible refine AWP.block ?_
    | with_reducible refine AWP.exit ?_
    | (with_reducible refine ⟨fun h => ?_, fun h => ?_⟩ <;> (try simp only [Bool.not_eq_true', Bool.not_eq_false'] at h) <;> simp only [h, go_sem, Nat.reduceBEq, Nat.reduceBNe, Nat.reduceAdd, Nat.reduceSub, Nat.reduceMul, Nat.reduceLeDiff, Nat.reduceLT, reduceCtorEq, Nat.reduceEqDiff, Int.reduceToNat, Int.reduceLE, Int.reduceLT, Int.reduceEq, h1, h3, h4, h5, h6, h7, h8])
    | (with_reducible refine ⟨hb0, ?_⟩)
    | (with_reducible refine AWP.parR mixed (by kernel_rfl) fun K hK => ?_)
    | (with_reducible refine Or.inl ?_)
    | (simp only [go_sem, Nat.reduceBEq, Nat.reduceBNe, Nat.reduceAdd, Nat.reduceSub, Nat.reduceMul, Nat.reduceLeDiff, Nat.reduceLT, reduceCtorEq, Nat.reduceEqDiff, Int.reduceToNat, Int.reduceLE, Int.reduceLT, Int.reduceEq, h1, h3, h4, h5, h6, h7, h8])
    | (clear hK K))
  all_goals (refine fin0 ?_; simp only [arithR, h1, h3, h4, h5, h6, h7, h8, cond_true, cond_false, Bool.not_true, Bool.not_false, Bool.and_true, Bool.and_false, sOver])
end Go.Proofs.Ytmpfdejckbceiaa
