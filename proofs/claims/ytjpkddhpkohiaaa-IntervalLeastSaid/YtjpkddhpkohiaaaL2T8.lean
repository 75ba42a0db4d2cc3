/- A part of the proof: lemmas about the walk of the program and about plain integers and lists. No conditions beyond those that each lemma states. -/
import Derived.Test.YtjpkddhpkohiaaaL2T7
set_option linter.unusedSimpArgs false
set_option linter.unusedVariables false
set_option maxRecDepth 20000
set_option maxHeartbeats 400000
namespace Go.Proofs.Ytjpkddhpkohiaaa
open Go Go.Sx Go.Ivl

theorem hasB_or (a b : List Rg) (n : Int) : hasB (nf (a ++ b)) n = (hasB a n || hasB b n) := by
  rw [hasB_nf, Bool.eq_iff_iff, Bool.or_eq_true, hasB_iff, hasB_iff, hasB_iff, has_append]
theorem hasB_and (a b : List Rg) (n : Int) : hasB (nf (prod (nf a) (nf b))) n = (hasB a n && hasB b n) := by
  rw [hasB_nf, Bool.eq_iff_iff, Bool.and_eq_true, hasB_iff, hasB_iff, hasB_iff, prod_has, nf_has, nf_has]
theorem hasB_comp {a : List Rg} (h : ∀ r ∈ a, In6 r) {n : Int} (hn : -9223372036854775808 ≤ n ∧ n ≤ 9223372036854775807) : hasB (comp a) n = !hasB a n := by
  rw [Bool.eq_iff_iff, Bool.not_eq_true', ← Bool.not_eq_true, hasB_iff, hasB_iff, comp_has h]; simp [hn]
theorem In6_app {a b : List Rg} (ha : ∀ r ∈ a, In6 r) (hb : ∀ r ∈ b, In6 r) : ∀ r ∈ a ++ b, In6 r := fun r hr => (List.mem_append.1 hr).elim (ha r) (hb r)

theorem sets_law (a b : List Rg) (ha : ∀ r ∈ a, In6 r) (hb : ∀ r ∈ b, In6 r) (n : Int) (hn : -9223372036854775808 ≤ n ∧ n ≤ 9223372036854775807) : PC Try.prog 7 [Sl a, Sl b, I .i64 n] (Bo true) := by
  refine PCB.of_body Try.func7 rfl (by decide) Try.ntmps7 Try.results7 rfl rfl rfl ?_ rfl rfl
  by_cases hsz : a.length ≤ 40
  · have hc : decide ((40 : Int) < (a.length : Int)) = false := by simp; omega
    by_cases hsb : b.length ≤ 40
    · have hc2 : decide ((40 : Int) < (b.length : Int)) = false := by simp; omega
      have h1 := union_c a b ha hb (by omega)
      have h2 := intersect_c a b ha hb (by omega) (by omega)
      have h3 := complement_c a ha (by omega)
      have v1 := (valid_iff (nf_In6 (In6_app ha hb))).2 (nf_Nf _)
      have v2 := (valid_iff (nf_In6 (prod_In6 (nf_In6 ha) (nf_In6 hb)))).2 (nf_Nf _)
      have v3 := (valid_iff (comp_In6 ha)).2 (comp_Nf ha)
      have w1 := hasB_or a b n
      have w2 := hasB_and a b n
      have w3 := hasB_comp ha hn
      cases hx : hasB a n <;> cases hy : hasB b n <;> rw [hx, hy] at w1 w2 <;> rw [hx] at w3
      all_goals simp only [Bool.or_true, Bool.or_false, Bool.and_true, Bool.and_false, Bool.not_true, Bool.not_false] at w1 w2 w3
      repeat' (first
        | (with_reducible refine seqVC_stepN rfl fun K hK => ?_; (try simp only [go_sem, Nat.reduceBEq, Nat.reduceBNe, Nat.reduceAdd, Nat.reduceSub, Nat.reduceMul, Nat.reduceLeDiff, Nat.reduceLT, reduceCtorEq, Nat.reduceEqDiff, Int.reduceToNat, Int.reduceLE, Int.reduceLT, Int.reduceEq, List.length_map, hc, hc2, v1, v2, v3, w1, w2, w3, hx, hy, beq_self_eq_true]); all_goals fail_if_success guard_target =ₛ False)
        | (with_reducible refine seqVC_stepG rfl (by with_unfolding_all rfl) fun K hK => ?_; (try simp only [go_sem, Nat.reduceBEq, Nat.reduceBNe, Nat.reduceAdd, Nat.reduceSub, Nat.reduceMul, Nat.reduceLeDiff, Nat.reduceLT, reduceCtorEq, Nat.reduceEqDiff, Int.reduceToNat, Int.reduceLE, Int.reduceLT, Int.reduceEq, List.length_map, hc, hc2, v1, v2, v3, w1, w2, w3, hx, hy, beq_self_eq_true]); all_goals fail_if_success guard_target =ₛ False)
        | with_reducible refine seqVC_nil ?_
        | (with_reducible refine hK _ _ ?_; clear hK K)
        | (with_reducible refine hK _ ?_; clear hK K)
        | with_reducible refine AWP.seq fun K hK => ?_
        | (with_reducible refine AWP.seqR (by kernel_rfl) fun K hK => ?_)
        | (with_reducible refine parVC_stepN rfl fun K hK => ?_; (try simp only [go_sem, Nat.reduceBEq, Nat.reduceBNe, Nat.reduceAdd, Nat.reduceSub, Nat.reduceMul, Nat.reduceLeDiff, Nat.reduceLT, reduceCtorEq, Nat.reduceEqDiff, Int.reduceToNat, Int.reduceLE, Int.reduceLT, Int.reduceEq, List.length_map, hc, hc2, v1, v2, v3, w1, w2, w3, hx, hy, beq_self_eq_true]); all_goals fail_if_success guard_target =ₛ False)
        | (with_reducible refine parVC_stepG rfl (by with_unfolding_all rfl) fun K hK => ?_; (try simp only [go_sem, Nat.reduceBEq, Nat.reduceBNe, Nat.reduceAdd, Nat.reduceSub, Nat.reduceMul, Nat.reduceLeDiff, Nat.reduceLT, reduceCtorEq, Nat.reduceEqDiff, Int.reduceToNat, Int.reduceLE, Int.reduceLT, Int.reduceEq, List.length_map, hc, hc2, v1, v2, v3, w1, w2, w3, hx, hy, beq_self_eq_true]); all_goals fail_if_success guard_target =ₛ False)
        | with_reducible refine parVC_nil ?_
        | (with_reducible refine parEVC_stepN rfl fun K hK => ?_; (try simp only [go_sem, Nat.reduceBEq, Nat.reduceBNe, Nat.reduceAdd, Nat.reduceSub, Nat.reduceMul, Nat.reduceLeDiff, Nat.reduceLT, reduceCtorEq, Nat.reduceEqDiff, Int.reduceToNat, Int.reduceLE, Int.reduceLT, Int.reduceEq, List.length_map, hc, hc2, v1, v2, v3, w1, w2, w3, hx, hy, beq_self_eq_true]); all_goals fail_if_success guard_target =ₛ False)
        | (with_reducible refine parEVC_stepG rfl (by with_unfolding_all rfl) fun K hK => ?_; (try simp only [go_sem, Nat.reduceBEq, Nat.reduceBNe, Nat.reduceAdd, Nat.reduceSub, Nat.reduceMul, Nat.reduceLeDiff, Nat.reduceLT, reduceCtorEq, Nat.reduceEqDiff, Int.reduceToNat, Int.reduceLE, Int.reduceLT, Int.reduceEq, List.length_map, hc, hc2, v1, v2, v3, w1, w2, w3, hx, hy, beq_self_eq_true]); all_goals fail_if_success guard_target =ₛ False)
        | with_reducible refine parEVC_nil ?_
        | (with_reducible refine AWP.cond (by with_unfolding_all rfl) (fun h => ?_) (fun h => ?_); all_goals (try simp only [Bool.not_eq_true', Bool.not_eq_false'] at h); (all_goals try first | (exact absurd h Bool.false_ne_true) | (exact absurd h.symm Bool.false_ne_true) | (exact absurd h (by decide))))
        | with_reducible refine AWP.skip ?_
        | with_reducible refine AWP.ret ?_
        | with_reducible refine AWP.block ?_
        | with_reducible refine AWP.exit ?_
        | (with_reducible refine ⟨fun h => ?_, fun h => ?_⟩ <;> (try simp only [Bool.not_eq_true', Bool.not_eq_false'] at h) <;> simp only [h, go_sem, Nat.reduceBEq, Nat.reduceBNe, Nat.reduceAdd, Nat.reduceSub, Nat.reduceMul, Nat.reduceLeDiff, Nat.reduceLT, reduceCtorEq, Nat.reduceEqDiff, Int.reduceToNat, Int.reduceLE, Int.reduceLT, Int.reduceEq, List.length_map, hc, hc2, v1, v2, v3, w1, w2, w3, hx, hy, beq_self_eq_true])
        | (with_reducible refine ⟨_, h1, ?_⟩; try simp only [go_sem, Nat.reduceBEq, Nat.reduceBNe, Nat.reduceAdd, Nat.reduceSub, Nat.reduceMul, Nat.reduceLeDiff, Nat.reduceLT, reduceCtorEq, Nat.reduceEqDiff, Int.reduceToNat, Int.reduceLE, Int.reduceLT, Int.reduceEq, List.length_map, hc, hc2, v1, v2, v3, w1, w2, w3, hx, hy, beq_self_eq_true])
        | (with_reducible refine ⟨_, h2, ?_⟩; try simp only [go_sem, Nat.reduceBEq, Nat.reduceBNe, Nat.reduceAdd, Nat.reduceSub, Nat.reduceMul, Nat.reduceLeDiff, Nat.reduceLT, reduceCtorEq, Nat.reduceEqDiff, Int.reduceToNat, Int.reduceLE, Int.reduceLT, Int.reduceEq, List.length_map, hc, hc2, v1, v2, v3, w1, w2, w3, hx, hy, beq_self_eq_true])
        | (with_reducible refine ⟨_, h3, ?_⟩; try simp only [go_sem, Nat.reduceBEq, Nat.reduceBNe, Nat.reduceAdd, Nat.reduceSub, Nat.reduceMul, Nat.reduceLeDiff, Nat.reduceLT, reduceCtorEq, Nat.reduceEqDiff, Int.reduceToNat, Int.reduceLE, Int.reduceLT, Int.reduceEq, List.length_map, hc, hc2, v1, v2, v3, w1, w2, w3, hx, hy, beq_self_eq_true])
        | (with_reducible refine ⟨_, hasInt_c _ _, ?_⟩; try simp only [go_sem, Nat.reduceBEq, Nat.reduceBNe, Nat.reduceAdd, Nat.reduceSub, Nat.reduceMul, Nat.reduceLeDiff, Nat.reduceLT, reduceCtorEq, Nat.reduceEqDiff, Int.reduceToNat, Int.reduceLE, Int.reduceLT, Int.reduceEq, List.length_map, hc, hc2, v1, v2, v3, w1, w2, w3, hx, hy, beq_self_eq_true])
        | (with_reducible refine ⟨_, valid_c _, ?_⟩; try simp only [go_sem, Nat.reduceBEq, Nat.reduceBNe, Nat.reduceAdd, Nat.reduceSub, Nat.reduceMul, Nat.reduceLeDiff, Nat.reduceLT, reduceCtorEq, Nat.reduceEqDiff, Int.reduceToNat, Int.reduceLE, Int.reduceLT, Int.reduceEq, List.length_map, hc, hc2, v1, v2, v3, w1, w2, w3, hx, hy, beq_self_eq_true])
        | (with_reducible refine ⟨_, contains_c _ _, ?_⟩; try simp only [go_sem, Nat.reduceBEq, Nat.reduceBNe, Nat.reduceAdd, Nat.reduceSub, Nat.reduceMul, Nat.reduceLeDiff, Nat.reduceLT, reduceCtorEq, Nat.reduceEqDiff, Int.reduceToNat, Int.reduceLE, Int.reduceLT, Int.reduceEq, List.length_map, hc, hc2, v1, v2, v3, w1, w2, w3, hx, hy, beq_self_eq_true])
        | (with_reducible refine ⟨_, awake_c, ?_⟩; try simp only [go_sem, Nat.reduceBEq, Nat.reduceBNe, Nat.reduceAdd, Nat.reduceSub, Nat.reduceMul, Nat.reduceLeDiff, Nat.reduceLT, reduceCtorEq, Nat.reduceEqDiff, Int.reduceToNat, Int.reduceLE, Int.reduceLT, Int.reduceEq, List.length_map, hc, hc2, v1, v2, v3, w1, w2, w3, hx, hy, beq_self_eq_true])
        | (with_reducible refine AWP.parR mixed (by kernel_rfl) fun K hK => ?_)
        | (simp only [go_sem, Nat.reduceBEq, Nat.reduceBNe, Nat.reduceAdd, Nat.reduceSub, Nat.reduceMul, Nat.reduceLeDiff, Nat.reduceLT, reduceCtorEq, Nat.reduceEqDiff, Int.reduceToNat, Int.reduceLE, Int.reduceLT, Int.reduceEq, List.length_map, hc, hc2, v1, v2, v3, w1, w2, w3, hx, hy, beq_self_eq_true])
        | (clear hK K))
      all_goals (first | exact fun _ h => (by cases h) | refine fin0 ?_)
    · have hc2 : decide ((40 : Int) < (b.length : Int)) = true := by simp; omega
      repeat' (first
        | (with_reducible refine seqVC_stepN rfl fun K hK => ?_; (try simp only [go_sem, Nat.reduceBEq, Nat.reduceBNe, Nat.reduceAdd, Nat.reduceSub, Nat.reduceMul, Nat.reduceLeDiff, Nat.reduceLT, reduceCtorEq, Nat.reduceEqDiff, Int.reduceToNat, Int.reduceLE, Int.reduceLT, Int.reduceEq, List.length_map, hc, hc2]); all_goals fail_if_success guard_target =ₛ False)
        | (with_reducible refine seqVC_stepG rfl (by with_unfolding_all rfl) fun K hK => ?_; (try simp only [go_sem, Nat.reduceBEq, Nat.reduceBNe, Nat.reduceAdd, Nat.reduceSub, Nat.reduceMul, Nat.reduceLeDiff, Nat.reduceLT, reduceCtorEq, Nat.reduceEqDiff, Int.reduceToNat, Int.reduceLE, Int.reduceLT, Int.reduceEq, List.length_map, hc, hc2]); all_goals fail_if_success guard_target =ₛ False)
        | with_reducible refine seqVC_nil ?_
        | (with_reducible refine hK _ _ ?_; clear hK K)
        | (with_reducible refine hK _ ?_; clear hK K)
        | with_reducible refine AWP.seq fun K hK => ?_
        | (with_reducible refine AWP.seqR (by kernel_rfl) fun K hK => ?_)
        | (with_reducible refine parVC_stepN rfl fun K hK => ?_; (try simp only [go_sem, Nat.reduceBEq, Nat.reduceBNe, Nat.reduceAdd, Nat.reduceSub, Nat.reduceMul, Nat.reduceLeDiff, Nat.reduceLT, reduceCtorEq, Nat.reduceEqDiff, Int.reduceToNat, Int.reduceLE, Int.reduceLT, Int.reduceEq, List.length_map, hc, hc2]); all_goals fail_if_success guard_target =ₛ False)
        | (with_reducible refine parVC_stepG rfl (by with_unfolding_all rfl) fun K hK => ?_; (try simp only [go_sem, Nat.reduceBEq, Nat.reduceBNe, Nat.reduceAdd, Nat.reduceSub, Nat.reduceMul, Nat.reduceLeDiff, Nat.reduceLT, reduceCtorEq, Nat.reduceEqDiff, Int.reduceToNat, Int.reduceLE, Int.reduceLT, Int.reduceEq, List.length_map, hc, hc2]); all_goals fail_if_success guard_target =ₛ False)
        | with_reducible refine parVC_nil ?_
        | (with_reducible refine parEVC_stepN rfl fun K hK => ?_; (try simp only [go_sem, Nat.reduceBEq, Nat.reduceBNe, Nat.reduceAdd, Nat.reduceSub, Nat.reduceMul, Nat.reduceLeDiff, Nat.reduceLT, reduceCtorEq, Nat.reduceEqDiff, Int.reduceToNat, Int.reduceLE, Int.reduceLT, Int.reduceEq, List.length_map, hc, hc2]); all_goals fail_if_success guard_target =ₛ False)
        | (with_reducible refine parEVC_stepG rfl (by with_unfolding_all rfl) fun K hK => ?_; (try simp only [go_sem, Nat.reduceBEq, Nat.reduceBNe, Nat.reduceAdd, Nat.reduceSub, Nat.reduceMul, Nat.reduceLeDiff, Nat.reduceLT, reduceCtorEq, Nat.reduceEqDiff, Int.reduceToNat, Int.reduceLE, Int.reduceLT, Int.reduceEq, List.length_map, hc, hc2]); all_goals fail_if_success guard_target =ₛ False)
        | with_reducible refine parEVC_nil ?_
        | (with_reducible refine AWP.cond (by with_unfolding_all rfl) (fun h => ?_) (fun h => ?_); all_goals (try simp only [Bool.not_eq_true', Bool.not_eq_false'] at h); (all_goals try first | (exact absurd h Bool.false_ne_true) | (exact absurd h.symm Bool.false_ne_true) | (exact absurd h (by decide))))
        | with_reducible refine AWP.skip ?_
        | with_reducible refine AWP.ret ?_
        | with_reducible refine AWP.block ?_
        | with_reducible refine AWP.exit ?_
        | (with_reducible refine ⟨fun h => ?_, fun h => ?_⟩ <;> (try simp only [Bool.not_eq_true', Bool.not_eq_false'] at h) <;> simp only [h, go_sem, Nat.reduceBEq, Nat.reduceBNe, Nat.reduceAdd, Nat.reduceSub, Nat.reduceMul, Nat.reduceLeDiff, Nat.reduceLT, reduceCtorEq, Nat.reduceEqDiff, Int.reduceToNat, Int.reduceLE, Int.reduceLT, Int.reduceEq, List.length_map, hc, hc2])
        | (with_reducible refine ⟨_, awake_c, ?_⟩; try simp only [go_sem, Nat.reduceBEq, Nat.reduceBNe, Nat.reduceAdd, Nat.reduceSub, Nat.reduceMul, Nat.reduceLeDiff, Nat.reduceLT, reduceCtorEq, Nat.reduceEqDiff, Int.reduceToNat, Int.reduceLE, Int.reduceLT, Int.reduceEq, List.length_map, hc, hc2])
        | (with_reducible refine AWP.parR mixed (by kernel_rfl) fun K hK => ?_)
        | (simp only [go_sem, Nat.reduceBEq, Nat.reduceBNe, Nat.reduceAdd, Nat.reduceSub, Nat.reduceMul, Nat.reduceLeDiff, Nat.reduceLT, reduceCtorEq, Nat.reduceEqDiff, Int.reduceToNat, Int.reduceLE, Int.reduceLT, Int.reduceEq, List.length_map, hc, hc2])
        | (clear hK K))
      all_goals (first | exact fun _ h => (by cases h) | refine fin0 ?_)
  · have hc : decide ((40 : Int) < (a.length : Int)) = true := by simp; omega
    repeat' (first
      | (with_reducible refine seqVC_stepN rfl fun K hK => ?_; (try simp only [go_sem, Nat.reduceBEq, Nat.reduceBNe, Nat.reduceAdd, Nat.reduceSub, Nat.reduceMul, Nat.reduceLeDiff, Nat.reduceLT, reduceCtorEq, Nat.reduceEqDiff, Int.reduceToNat, Int.reduceLE, Int.reduceLT, Int.reduceEq, List.length_map, hc]); all_goals fail_if_success guard_target =ₛ False)
      | (with_reducible refine seqVC_stepG rfl (by with_unfolding_all rfl) fun K hK => ?_; (try simp only [go_sem, Nat.reduceBEq, Nat.reduceBNe, Nat.reduceAdd, Nat.reduceSub, Nat.reduceMul, Nat.reduceLeDiff, Nat.reduceLT, reduceCtorEq, Nat.reduceEqDiff, Int.reduceToNat, Int.reduceLE, Int.reduceLT, Int.reduceEq, List.length_map, hc]); all_goals fail_if_success guard_target =ₛ False)
      | with_reducible refine seqVC_nil ?_
      | (with_reducible refine hK _ _ ?_; clear hK K)
      | (with_reducible refine hK _ ?_; clear hK K)
      | with_reducible refine AWP.seq fun K hK => ?_
      | (with_reducible refine AWP.seqR (by kernel_rfl) fun K hK => ?_)
      | (with_reducible refine parVC_stepN rfl fun K hK => ?_; (try simp only [go_sem, Nat.reduceBEq, Nat.reduceBNe, Nat.reduceAdd, Nat.reduceSub, Nat.reduceMul, Nat.reduceLeDiff, Nat.reduceLT, reduceCtorEq, Nat.reduceEqDiff, Int.reduceToNat, Int.reduceLE, Int.reduceLT, Int.reduceEq, List.length_map, hc]); all_goals fail_if_success guard_target =ₛ False)
      | (with_reducible refine parVC_stepG rfl (by with_unfolding_all rfl) fun K hK => ?_; (try simp only [go_sem, Nat.reduceBEq, Nat.reduceBNe, Nat.reduceAdd, Nat.reduceSub, Nat.reduceMul, Nat.reduceLeDiff, Nat.reduceLT, reduceCtorEq, Nat.reduceEqDiff, Int.reduceToNat, Int.reduceLE, Int.reduceLT, Int.reduceEq, List.length_map, hc]); all_goals fail_if_success guard_target =ₛ False)
      | with_reducible refine parVC_nil ?_
      | (with_reducible refine parEVC_stepN rfl fun K hK => ?_; (try simp only [go_sem, Nat.reduceBEq, Nat.reduceBNe, Nat.reduceAdd, Nat.reduceSub, Nat.reduceMul, Nat.reduceLeDiff, Nat.reduceLT, reduceCtorEq, Nat.reduceEqDiff, Int.reduceToNat, Int.reduceLE, Int.reduceLT, Int.reduceEq, List.length_map, hc]); all_goals fail_if_success guard_target =ₛ False)
      | (with_reducible refine parEVC_stepG rfl (by with_unfolding_all rfl) fun K hK => ?_; (try simp only [go_sem, Nat.reduceBEq, Nat.reduceBNe, Nat.reduceAdd, Nat.reduceSub, Nat.reduceMul, Nat.reduceLeDiff, Nat.reduceLT, reduceCtorEq, Nat.reduceEqDiff, Int.reduceToNat, Int.reduceLE, Int.reduceLT, Int.reduceEq, List.length_map, hc]); all_goals fail_if_success guard_target =ₛ False)
      | with_reducible refine parEVC_nil ?_
      | (with_reducible refine AWP.cond (by with_unfolding_all rfl) (fun h => ?_) (fun h => ?_); all_goals (try simp only [Bool.not_eq_true', Bool.not_eq_false'] at h); (all_goals try first | (exact absurd h Bool.false_ne_true) | (exact absurd h.symm Bool.false_ne_true) | (exact absurd h (by decide))))
      | with_reducible refine AWP.skip ?_
      | with_reducible refine AWP.ret ?_
      | with_reducible refine AWP.block ?_
      | with_reducible refine AWP.exit ?_
      | (with_reducible refine ⟨fun h => ?_, fun h => ?_⟩ <;> (try simp only [Bool.not_eq_true', Bool.not_eq_false'] at h) <;> simp only [h, go_sem, Nat.reduceBEq, Nat.reduceBNe, Nat.reduceAdd, Nat.reduceSub, Nat.reduceMul, Nat.reduceLeDiff, Nat.reduceLT, reduceCtorEq, Nat.reduceEqDiff, Int.reduceToNat, Int.reduceLE, Int.reduceLT, Int.reduceEq, List.length_map, hc])
      | (with_reducible refine ⟨_, awake_c, ?_⟩; try simp only [go_sem, Nat.reduceBEq, Nat.reduceBNe, Nat.reduceAdd, Nat.reduceSub, Nat.reduceMul, Nat.reduceLeDiff, Nat.reduceLT, reduceCtorEq, Nat.reduceEqDiff, Int.reduceToNat, Int.reduceLE, Int.reduceLT, Int.reduceEq, List.length_map, hc])
      | (with_reducible refine AWP.parR mixed (by kernel_rfl) fun K hK => ?_)
      | (simp only [go_sem, Nat.reduceBEq, Nat.reduceBNe, Nat.reduceAdd, Nat.reduceSub, Nat.reduceMul, Nat.reduceLeDiff, Nat.reduceLT, reduceCtorEq, Nat.reduceEqDiff, Int.reduceToNat, Int.reduceLE, Int.reduceLT, Int.reduceEq, List.length_map, hc])
      | (clear hK K))
    all_goals (first | exact fun _ h => (by cases h) | refine fin0 ?_)

theorem full_has (n : Int) : has [(⟨-9223372036854775808, 9223372036854775807⟩ : Rg)] n ↔ (-9223372036854775808 ≤ n ∧ n ≤ 9223372036854775807) := by simp [has]
theorem algebra_law (a b : List Rg) (ha : ∀ r ∈ a, In6 r) (hb : ∀ r ∈ b, In6 r) : PC Try.prog 5 [Sl a, Sl b] (Bo true) := by
  refine PCB.of_body Try.func5 rfl (by decide) Try.ntmps5 Try.results5 rfl rfl rfl ?_ rfl rfl
  by_cases hsz : a.length ≤ 40
  · have hc : decide ((40 : Int) < (a.length : Int)) = false := by simp; omega
    by_cases hsb : b.length ≤ 40
    · have hc2 : decide ((40 : Int) < (b.length : Int)) = false := by simp; omega
      have hab := In6_app ha hb
      have hs6 := nf_In6 ha
      have lca := comp_len ha
      have lcb := comp_len hb
      have lna := nf_len a
      have lab := nf_len (a ++ b)
      rw [List.length_append] at lab
      have lcs := comp_len hs6
      have hcs6 := comp_In6 hs6
      have h1 := normalize_c a ha (by omega)
      have h2 := union_c a b ha hb (by omega)
      have h3 := complement_c (nf (a ++ b)) (nf_In6 hab) (by omega)
      have h4 := complement_c a ha (by omega)
      have h5 := complement_c b hb (by omega)
      have h6 := intersect_c (comp a) (comp b) (comp_In6 ha) (comp_In6 hb) (by omega) (by omega)
      have h7 := complement_c (nf a) hs6 (by omega)
      have h8 := complement_c (comp (nf a)) hcs6 (by omega)
      have h9 := union_c (nf a) (comp (nf a)) hs6 hcs6 (by omega)
      have h10 := intersect_c (nf a) (comp (nf a)) hs6 hcs6 (by omega) (by omega)
      have e1 : decide (comp (comp (nf a)) = nf a) = true := by
        rw [decide_eq_true_eq]
        refine Nf.unique (comp_Nf hcs6) (nf_Nf a) fun n => ?_
        rw [comp_has hcs6, comp_has hs6]
        constructor
        · rintro ⟨h1, h2⟩; by_cases h : has (nf a) n
          · exact h
          · exact absurd ⟨h1, h⟩ h2
        · intro h; exact ⟨has_In6 hs6 n h, fun k => k.2 h⟩
      have e2 : decide (comp (nf (a ++ b)) = nf (prod (nf (comp a)) (nf (comp b)))) = true := by
        rw [decide_eq_true_eq]
        refine Nf.unique (comp_Nf (nf_In6 hab)) (nf_Nf _) fun n => ?_
        rw [comp_has (nf_In6 hab), nf_has, nf_has, prod_has, nf_has, nf_has, comp_has ha, comp_has hb, has_append]
        constructor
        · rintro ⟨h1, h2⟩; exact ⟨⟨h1, fun h => h2 (.inl h)⟩, h1, fun h => h2 (.inr h)⟩
        · rintro ⟨⟨h1, h2⟩, _, h3⟩; exact ⟨h1, fun h => h.elim h2 h3⟩
      have e3 : decide (nf (nf a ++ comp (nf a)) = [⟨-9223372036854775808, 9223372036854775807⟩]) = true := by
        rw [decide_eq_true_eq]
        refine Nf.unique (nf_Nf _) ⟨by simp, by simp⟩ fun n => ?_
        rw [nf_has, has_append, comp_has hs6, full_has]
        constructor
        · rintro (h | h)
          · exact has_In6 hs6 n h
          · exact h.1
        · intro h; by_cases k : has (nf a) n
          · exact .inl k
          · exact .inr ⟨h, k⟩
      have e4 : nf (prod (nf (nf a)) (nf (comp (nf a)))) = [] := by
        refine Nf.unique (nf_Nf _) ⟨by simp, by simp⟩ fun n => ?_
        simp only [nf_has, prod_has, comp_has hs6, has_nil]
        exact ⟨fun h => h.2.2 h.1, fun h => h.elim⟩
      rw [e4] at h10
      have e5 : decide ((0 : Int) = 0) = true := rfl
      repeat' (first
        | (with_reducible refine seqVC_stepN rfl fun K hK => ?_; (try simp only [go_sem, Nat.reduceBEq, Nat.reduceBNe, Nat.reduceAdd, Nat.reduceSub, Nat.reduceMul, Nat.reduceLeDiff, Nat.reduceLT, reduceCtorEq, Nat.reduceEqDiff, Int.reduceToNat, Int.reduceLE, Int.reduceLT, Int.reduceEq, List.length_map, hc, hc2, e1, e2, e3, List.map_nil, List.length_nil, e5]); all_goals fail_if_success guard_target =ₛ False)
        | (with_reducible refine seqVC_stepG rfl (by with_unfolding_all rfl) fun K hK => ?_; (try simp only [go_sem, Nat.reduceBEq, Nat.reduceBNe, Nat.reduceAdd, Nat.reduceSub, Nat.reduceMul, Nat.reduceLeDiff, Nat.reduceLT, reduceCtorEq, Nat.reduceEqDiff, Int.reduceToNat, Int.reduceLE, Int.reduceLT, Int.reduceEq, List.length_map, hc, hc2, e1, e2, e3, List.map_nil, List.length_nil, e5]); all_goals fail_if_success guard_target =ₛ False)
        | with_reducible refine seqVC_nil ?_
        | (with_reducible refine hK _ _ ?_; clear hK K)
        | (with_reducible refine hK _ ?_; clear hK K)
        | with_reducible refine AWP.seq fun K hK => ?_
        | (with_reducible refine AWP.seqR (by kernel_rfl) fun K hK => ?_)
        | (with_reducible refine parVC_stepN rfl fun K hK => ?_; (try simp only [go_sem, Nat.reduceBEq, Nat.reduceBNe, Nat.reduceAdd, Nat.reduceSub, Nat.reduceMul, Nat.reduceLeDiff, Nat.reduceLT, reduceCtorEq, Nat.reduceEqDiff, Int.reduceToNat, Int.reduceLE, Int.reduceLT, Int.reduceEq, List.length_map, hc, hc2, e1, e2, e3, List.map_nil, List.length_nil, e5]); all_goals fail_if_success guard_target =ₛ False)
        | (with_reducible refine parVC_stepG rfl (by with_unfolding_all rfl) fun K hK => ?_; (try simp only [go_sem, Nat.reduceBEq, Nat.reduceBNe, Nat.reduceAdd, Nat.reduceSub, Nat.reduceMul, Nat.reduceLeDiff, Nat.reduceLT, reduceCtorEq, Nat.reduceEqDiff, Int.reduceToNat, Int.reduceLE, Int.reduceLT, Int.reduceEq, List.length_map, hc, hc2, e1, e2, e3, List.map_nil, List.length_nil, e5]); all_goals fail_if_success guard_target =ₛ False)
        | with_reducible refine parVC_nil ?_
        | (with_reducible refine parEVC_stepN rfl fun K hK => ?_; (try simp only [go_sem, Nat.reduceBEq, Nat.reduceBNe, Nat.reduceAdd, Nat.reduceSub, Nat.reduceMul, Nat.reduceLeDiff, Nat.reduceLT, reduceCtorEq, Nat.reduceEqDiff, Int.reduceToNat, Int.reduceLE, Int.reduceLT, Int.reduceEq, List.length_map, hc, hc2, e1, e2, e3, List.map_nil, List.length_nil, e5]); all_goals fail_if_success guard_target =ₛ False)
        | (with_reducible refine parEVC_stepG rfl (by with_unfolding_all rfl) fun K hK => ?_; (try simp only [go_sem, Nat.reduceBEq, Nat.reduceBNe, Nat.reduceAdd, Nat.reduceSub, Nat.reduceMul, Nat.reduceLeDiff, Nat.reduceLT, reduceCtorEq, Nat.reduceEqDiff, Int.reduceToNat, Int.reduceLE, Int.reduceLT, Int.reduceEq, List.length_map, hc, hc2, e1, e2, e3, List.map_nil, List.length_nil, e5]); all_goals fail_if_success guard_target =ₛ False)
        | with_reducible refine parEVC_nil ?_
        | (with_reducible refine AWP.cond (by with_unfolding_all rfl) (fun h => ?_) (fun h => ?_); all_goals (try simp only [Bool.not_eq_true', Bool.not_eq_false'] at h); (all_goals try first | (exact absurd h Bool.false_ne_true) | (exact absurd h.symm Bool.false_ne_true) | (exact absurd h (by decide))))
        | with_reducible refine AWP.skip ?_
        | with_reducible refine AWP.ret ?_
        | with_reducible refine AWP.block ?_
        | with_reducible refine AWP.exit ?_
        | (with_reducible refine ⟨fun h => ?_, fun h => ?_⟩ <;> (try simp only [Bool.not_eq_true', Bool.not_eq_false'] at h) <;> simp only [h, go_sem, Nat.reduceBEq, Nat.reduceBNe, Nat.reduceAdd, Nat.reduceSub, Nat.reduceMul, Nat.reduceLeDiff, Nat.reduceLT, reduceCtorEq, Nat.reduceEqDiff, Int.reduceToNat, Int.reduceLE, Int.reduceLT, Int.reduceEq, List.length_map, hc, hc2, e1, e2, e3, List.map_nil, List.length_nil, e5])
        | (with_reducible refine ⟨_, h1, ?_⟩; try simp only [go_sem, Nat.reduceBEq, Nat.reduceBNe, Nat.reduceAdd, Nat.reduceSub, Nat.reduceMul, Nat.reduceLeDiff, Nat.reduceLT, reduceCtorEq, Nat.reduceEqDiff, Int.reduceToNat, Int.reduceLE, Int.reduceLT, Int.reduceEq, List.length_map, hc, hc2, e1, e2, e3, List.map_nil, List.length_nil, e5])
        | (with_reducible refine ⟨_, h2, ?_⟩; try simp only [go_sem, Nat.reduceBEq, Nat.reduceBNe, Nat.reduceAdd, Nat.reduceSub, Nat.reduceMul, Nat.reduceLeDiff, Nat.reduceLT, reduceCtorEq, Nat.reduceEqDiff, Int.reduceToNat, Int.reduceLE, Int.reduceLT, Int.reduceEq, List.length_map, hc, hc2, e1, e2, e3, List.map_nil, List.length_nil, e5])
        | (with_reducible refine ⟨_, h3, ?_⟩; try simp only [go_sem, Nat.reduceBEq, Nat.reduceBNe, Nat.reduceAdd, Nat.reduceSub, Nat.reduceMul, Nat.reduceLeDiff, Nat.reduceLT, reduceCtorEq, Nat.reduceEqDiff, Int.reduceToNat, Int.reduceLE, Int.reduceLT, Int.reduceEq, List.length_map, hc, hc2, e1, e2, e3, List.map_nil, List.length_nil, e5])
        | (with_reducible refine ⟨_, h4, ?_⟩; try simp only [go_sem, Nat.reduceBEq, Nat.reduceBNe, Nat.reduceAdd, Nat.reduceSub, Nat.reduceMul, Nat.reduceLeDiff, Nat.reduceLT, reduceCtorEq, Nat.reduceEqDiff, Int.reduceToNat, Int.reduceLE, Int.reduceLT, Int.reduceEq, List.length_map, hc, hc2, e1, e2, e3, List.map_nil, List.length_nil, e5])
        | (with_reducible refine ⟨_, h5, ?_⟩; try simp only [go_sem, Nat.reduceBEq, Nat.reduceBNe, Nat.reduceAdd, Nat.reduceSub, Nat.reduceMul, Nat.reduceLeDiff, Nat.reduceLT, reduceCtorEq, Nat.reduceEqDiff, Int.reduceToNat, Int.reduceLE, Int.reduceLT, Int.reduceEq, List.length_map, hc, hc2, e1, e2, e3, List.map_nil, List.length_nil, e5])
        | (with_reducible refine ⟨_, h6, ?_⟩; try simp only [go_sem, Nat.reduceBEq, Nat.reduceBNe, Nat.reduceAdd, Nat.reduceSub, Nat.reduceMul, Nat.reduceLeDiff, Nat.reduceLT, reduceCtorEq, Nat.reduceEqDiff, Int.reduceToNat, Int.reduceLE, Int.reduceLT, Int.reduceEq, List.length_map, hc, hc2, e1, e2, e3, List.map_nil, List.length_nil, e5])
        | (with_reducible refine ⟨_, h7, ?_⟩; try simp only [go_sem, Nat.reduceBEq, Nat.reduceBNe, Nat.reduceAdd, Nat.reduceSub, Nat.reduceMul, Nat.reduceLeDiff, Nat.reduceLT, reduceCtorEq, Nat.reduceEqDiff, Int.reduceToNat, Int.reduceLE, Int.reduceLT, Int.reduceEq, List.length_map, hc, hc2, e1, e2, e3, List.map_nil, List.length_nil, e5])
        | (with_reducible refine ⟨_, h8, ?_⟩; try simp only [go_sem, Nat.reduceBEq, Nat.reduceBNe, Nat.reduceAdd, Nat.reduceSub, Nat.reduceMul, Nat.reduceLeDiff, Nat.reduceLT, reduceCtorEq, Nat.reduceEqDiff, Int.reduceToNat, Int.reduceLE, Int.reduceLT, Int.reduceEq, List.length_map, hc, hc2, e1, e2, e3, List.map_nil, List.length_nil, e5])
        | (with_reducible refine ⟨_, h9, ?_⟩; try simp only [go_sem, Nat.reduceBEq, Nat.reduceBNe, Nat.reduceAdd, Nat.reduceSub, Nat.reduceMul, Nat.reduceLeDiff, Nat.reduceLT, reduceCtorEq, Nat.reduceEqDiff, Int.reduceToNat, Int.reduceLE, Int.reduceLT, Int.reduceEq, List.length_map, hc, hc2, e1, e2, e3, List.map_nil, List.length_nil, e5])
        | (with_reducible refine ⟨_, h10, ?_⟩; try simp only [go_sem, Nat.reduceBEq, Nat.reduceBNe, Nat.reduceAdd, Nat.reduceSub, Nat.reduceMul, Nat.reduceLeDiff, Nat.reduceLT, reduceCtorEq, Nat.reduceEqDiff, Int.reduceToNat, Int.reduceLE, Int.reduceLT, Int.reduceEq, List.length_map, hc, hc2, e1, e2, e3, List.map_nil, List.length_nil, e5])
        | (with_reducible refine ⟨_, full_c, ?_⟩; try simp only [go_sem, Nat.reduceBEq, Nat.reduceBNe, Nat.reduceAdd, Nat.reduceSub, Nat.reduceMul, Nat.reduceLeDiff, Nat.reduceLT, reduceCtorEq, Nat.reduceEqDiff, Int.reduceToNat, Int.reduceLE, Int.reduceLT, Int.reduceEq, List.length_map, hc, hc2, e1, e2, e3, List.map_nil, List.length_nil, e5])
        | (refine ⟨_, same_c (nf (nf a ++ comp (nf a))) [⟨-9223372036854775808, 9223372036854775807⟩], ?_⟩; try simp only [go_sem, Nat.reduceBEq, Nat.reduceBNe, Nat.reduceAdd, Nat.reduceSub, Nat.reduceMul, Nat.reduceLeDiff, Nat.reduceLT, reduceCtorEq, Nat.reduceEqDiff, Int.reduceToNat, Int.reduceLE, Int.reduceLT, Int.reduceEq, List.length_map, hc, hc2, e1, e2, e3, List.map_nil, List.length_nil, e5])
        | (with_reducible refine ⟨_, same_c _ _, ?_⟩; try simp only [go_sem, Nat.reduceBEq, Nat.reduceBNe, Nat.reduceAdd, Nat.reduceSub, Nat.reduceMul, Nat.reduceLeDiff, Nat.reduceLT, reduceCtorEq, Nat.reduceEqDiff, Int.reduceToNat, Int.reduceLE, Int.reduceLT, Int.reduceEq, List.length_map, hc, hc2, e1, e2, e3, List.map_nil, List.length_nil, e5])
        | (with_reducible refine ⟨_, awake_c, ?_⟩; try simp only [go_sem, Nat.reduceBEq, Nat.reduceBNe, Nat.reduceAdd, Nat.reduceSub, Nat.reduceMul, Nat.reduceLeDiff, Nat.reduceLT, reduceCtorEq, Nat.reduceEqDiff, Int.reduceToNat, Int.reduceLE, Int.reduceLT, Int.reduceEq, List.length_map, hc, hc2, e1, e2, e3, List.map_nil, List.length_nil, e5])
        | (with_reducible refine AWP.parR mixed (by kernel_rfl) fun K hK => ?_)
        | (simp only [go_sem, Nat.reduceBEq, Nat.reduceBNe, Nat.reduceAdd, Nat.reduceSub, Nat.reduceMul, Nat.reduceLeDiff, Nat.reduceLT, reduceCtorEq, Nat.reduceEqDiff, Int.reduceToNat, Int.reduceLE, Int.reduceLT, Int.reduceEq, List.length_map, hc, hc2, e1, e2, e3, List.map_nil, List.length_nil, e5])
        | (clear hK K))
      all_goals (first | exact fun _ h => (by cases h) | refine fin0 ?_)
    · have hc2 : decide ((40 : Int) < (b.length : Int)) = true := by simp; omega
      repeat' (first
        | (with_reducible refine seqVC_stepN rfl fun K hK => ?_; (try simp only [go_sem, Nat.reduceBEq, Nat.reduceBNe, Nat.reduceAdd, Nat.reduceSub, Nat.reduceMul, Nat.reduceLeDiff, Nat.reduceLT, reduceCtorEq, Nat.reduceEqDiff, Int.reduceToNat, Int.reduceLE, Int.reduceLT, Int.reduceEq, List.length_map, hc, hc2]); all_goals fail_if_success guard_target =ₛ False)
        | (with_reducible refine seqVC_stepG rfl (by with_unfolding_all rfl) fun K hK => ?_; (try simp only [go_sem, Nat.reduceBEq, Nat.reduceBNe, Nat.reduceAdd, Nat.reduceSub, Nat.reduceMul, Nat.reduceLeDiff, Nat.reduceLT, reduceCtorEq, Nat.reduceEqDiff, Int.reduceToNat, Int.reduceLE, Int.reduceLT, Int.reduceEq, List.length_map, hc, hc2]); all_goals fail_if_success guard_target =ₛ False)
        | with_reducible refine seqVC_nil ?_
        | (with_reducible refine hK _ _ ?_; clear hK K)
        | (with_reducible refine hK _ ?_; clear hK K)
        | with_reducible refine AWP.seq fun K hK => ?_
        | (with_reducible refine AWP.seqR (by kernel_rfl) fun K hK => ?_)
        | (with_reducible refine parVC_stepN rfl fun K hK => ?_; (try simp only [go_sem, Nat.reduceBEq, Nat.reduceBNe, Nat.reduceAdd, Nat.reduceSub, Nat.reduceMul, Nat.reduceLeDiff, Nat.reduceLT, reduceCtorEq, Nat.reduceEqDiff, Int.reduceToNat, Int.reduceLE, Int.reduceLT, Int.reduceEq, List.length_map, hc, hc2]); all_goals fail_if_success guard_target =ₛ False)
        | (with_reducible refine parVC_stepG rfl (by with_unfolding_all rfl) fun K hK => ?_; (try simp only [go_sem, Nat.reduceBEq, Nat.reduceBNe, Nat.reduceAdd, Nat.reduceSub, Nat.reduceMul, Nat.reduceLeDiff, Nat.reduceLT, reduceCtorEq, Nat.reduceEqDiff, Int.reduceToNat, Int.reduceLE, Int.reduceLT, Int.reduceEq, List.length_map, hc, hc2]); all_goals fail_if_success guard_target =ₛ False)
        | with_reducible refine parVC_nil ?_
        | (with_reducible refine parEVC_stepN rfl fun K hK => ?_; (try simp only [go_sem, Nat.reduceBEq, Nat.reduceBNe, Nat.reduceAdd, Nat.reduceSub, Nat.reduceMul, Nat.reduceLeDiff, Nat.reduceLT, reduceCtorEq, Nat.reduceEqDiff, Int.reduceToNat, Int.reduceLE, Int.reduceLT, Int.reduceEq, List.length_map, hc, hc2]); all_goals fail_if_success guard_target =ₛ False)
        | (with_reducible refine parEVC_stepG rfl (by with_unfolding_all rfl) fun K hK => ?_; (try simp only [go_sem, Nat.reduceBEq, Nat.reduceBNe, Nat.reduceAdd, Nat.reduceSub, Nat.reduceMul, Nat.reduceLeDiff, Nat.reduceLT, reduceCtorEq, Nat.reduceEqDiff, Int.reduceToNat, Int.reduceLE, Int.reduceLT, Int.reduceEq, List.length_map, hc, hc2]); all_goals fail_if_success guard_target =ₛ False)
        | with_reducible refine parEVC_nil ?_
        | (with_reducible refine AWP.cond (by with_unfolding_all rfl) (fun h => ?_) (fun h => ?_); all_goals (try simp only [Bool.not_eq_true', Bool.not_eq_false'] at h); (all_goals try first | (exact absurd h Bool.false_ne_true) | (exact absurd h.symm Bool.false_ne_true) | (exact absurd h (by decide))))
        | with_reducible refine AWP.skip ?_
        | with_reducible refine AWP.ret ?_
        | with_reducible refine AWP.block ?_
        | with_reducible refine AWP.exit ?_
        | (with_reducible refine ⟨fun h => ?_, fun h => ?_⟩ <;> (try simp only [Bool.not_eq_true', Bool.not_eq_false'] at h) <;> simp only [h, go_sem, Nat.reduceBEq, Nat.reduceBNe, Nat.reduceAdd, Nat.reduceSub, Nat.reduceMul, Nat.reduceLeDiff, Nat.reduceLT, reduceCtorEq, Nat.reduceEqDiff, Int.reduceToNat, Int.reduceLE, Int.reduceLT, Int.reduceEq, List.length_map, hc, hc2])
        | (with_reducible refine ⟨_, awake_c, ?_⟩; try simp only [go_sem, Nat.reduceBEq, Nat.reduceBNe, Nat.reduceAdd, Nat.reduceSub, Nat.reduceMul, Nat.reduceLeDiff, Nat.reduceLT, reduceCtorEq, Nat.reduceEqDiff, Int.reduceToNat, Int.reduceLE, Int.reduceLT, Int.reduceEq, List.length_map, hc, hc2])
        | (with_reducible refine AWP.parR mixed (by kernel_rfl) fun K hK => ?_)
        | (simp only [go_sem, Nat.reduceBEq, Nat.reduceBNe, Nat.reduceAdd, Nat.reduceSub, Nat.reduceMul, Nat.reduceLeDiff, Nat.reduceLT, reduceCtorEq, Nat.reduceEqDiff, Int.reduceToNat, Int.reduceLE, Int.reduceLT, Int.reduceEq, List.length_map, hc, hc2])
        | (clear hK K))
      all_goals (first | exact fun _ h => (by cases h) | refine fin0 ?_)
  · have hc : decide ((40 : Int) < (a.length : Int)) = true := by simp; omega
    repeat' (first
      | (with_reducible refine seqVC_stepN rfl fun K hK => ?_; (try simp only [go_sem, Nat.reduceBEq, Nat.reduceBNe, Nat.reduceAdd, Nat.reduceSub, Nat.reduceMul, Nat.reduceLeDiff, Nat.reduceLT, reduceCtorEq, Nat.reduceEqDiff, Int.reduceToNat, Int.reduceLE, Int.reduceLT, Int.reduceEq, List.length_map, hc]); all_goals fail_if_success guard_target =ₛ False)
      | (with_reducible refine seqVC_stepG rfl (by with_unfolding_all rfl) fun K hK => ?_; (try simp only [go_sem, Nat.reduceBEq, Nat.reduceBNe, Nat.reduceAdd, Nat.reduceSub, Nat.reduceMul, Nat.reduceLeDiff, Nat.reduceLT, reduceCtorEq, Nat.reduceEqDiff, Int.reduceToNat, Int.reduceLE, Int.reduceLT, Int.reduceEq, List.length_map, hc]); all_goals fail_if_success guard_target =ₛ False)
      | with_reducible refine seqVC_nil ?_
      | (with_reducible refine hK _ _ ?_; clear hK K)
      | (with_reducible refine hK _ ?_; clear hK K)
      | with_reducible refine AWP.seq fun K hK => ?_
      | (with_reducible refine AWP.seqR (by kernel_rfl) fun K hK => ?_)
      | (with_reducible refine parVC_stepN rfl fun K hK => ?_; (try simp only [go_sem, Nat.reduceBEq, Nat.reduceBNe, Nat.reduceAdd, Nat.reduceSub, Nat.reduceMul, Nat.reduceLeDiff, Nat.reduceLT, reduceCtorEq, Nat.reduceEqDiff, Int.reduceToNat, Int.reduceLE, Int.reduceLT, Int.reduceEq, List.length_map, hc]); all_goals fail_if_success guard_target =ₛ False)
      | (with_reducible refine parVC_stepG rfl (by with_unfolding_all rfl) fun K hK => ?_; (try simp only [go_sem, Nat.reduceBEq, Nat.reduceBNe, Nat.reduceAdd, Nat.reduceSub, Nat.reduceMul, Nat.reduceLeDiff, Nat.reduceLT, reduceCtorEq, Nat.reduceEqDiff, Int.reduceToNat, Int.reduceLE, Int.reduceLT, Int.reduceEq, List.length_map, hc]); all_goals fail_if_success guard_target =ₛ False)
      | with_reducible refine parVC_nil ?_
      | (with_reducible refine parEVC_stepN rfl fun K hK => ?_; (try simp only [go_sem, Nat.reduceBEq, Nat.reduceBNe, Nat.reduceAdd, Nat.reduceSub, Nat.reduceMul, Nat.reduceLeDiff, Nat.reduceLT, reduceCtorEq, Nat.reduceEqDiff, Int.reduceToNat, Int.reduceLE, Int.reduceLT, Int.reduceEq, List.length_map, hc]); all_goals fail_if_success guard_target =ₛ False)
      | (with_reducible refine parEVC_stepG rfl (by with_unfolding_all rfl) fun K hK => ?_; (try simp only [go_sem, Nat.reduceBEq, Nat.reduceBNe, Nat.reduceAdd, Nat.reduceSub, Nat.reduceMul, Nat.reduceLeDiff, Nat.reduceLT, reduceCtorEq, Nat.reduceEqDiff, Int.reduceToNat, Int.reduceLE, Int.reduceLT, Int.reduceEq, List.length_map, hc]); all_goals fail_if_success guard_target =ₛ False)
      | with_reducible refine parEVC_nil ?_
      | (with_reducible refine AWP.cond (by with_unfolding_all rfl) (fun h => ?_) (fun h => ?_); all_goals (try simp only [Bool.not_eq_true', Bool.not_eq_false'] at h); (all_goals try first | (exact absurd h Bool.false_ne_true) | (exact absurd h.symm Bool.false_ne_true) | (exact absurd h (by decide))))
      | with_reducible refine AWP.skip ?_
      | with_reducible refine AWP.ret ?_
      | with_reducible refine AWP.block ?_
      | with_reducible refine AWP.exit ?_
      | (with_reducible refine ⟨fun h => ?_, fun h => ?_⟩ <;> (try simp only [Bool.not_eq_true', Bool.not_eq_false'] at h) <;> simp only [h, go_sem, Nat.reduceBEq, Nat.reduceBNe, Nat.reduceAdd, Nat.reduceSub, Nat.reduceMul, Nat.reduceLeDiff, Nat.reduceLT, reduceCtorEq, Nat.reduceEqDiff, Int.reduceToNat, Int.reduceLE, Int.reduceLT, Int.reduceEq, List.length_map, hc])
      | (with_reducible refine ⟨_, awake_c, ?_⟩; try simp only [go_sem, Nat.reduceBEq, Nat.reduceBNe, Nat.reduceAdd, Nat.reduceSub, Nat.reduceMul, Nat.reduceLeDiff, Nat.reduceLT, reduceCtorEq, Nat.reduceEqDiff, Int.reduceToNat, Int.reduceLE, Int.reduceLT, Int.reduceEq, List.length_map, hc])
      | (with_reducible refine AWP.parR mixed (by kernel_rfl) fun K hK => ?_)
      | (simp only [go_sem, Nat.reduceBEq, Nat.reduceBNe, Nat.reduceAdd, Nat.reduceSub, Nat.reduceMul, Nat.reduceLeDiff, Nat.reduceLT, reduceCtorEq, Nat.reduceEqDiff, Int.reduceToNat, Int.reduceLE, Int.reduceLT, Int.reduceEq, List.length_map, hc])
      | (clear hK K))
    all_goals (first | exact fun _ h => (by cases h) | refine fin0 ?_)

/-- inclusion, three ways -/
theorem sub_iff1 {a b : List Rg} (ha : ∀ r ∈ a, In6 r) (hb : ∀ r ∈ b, In6 r) : nf (prod (nf a) (nf (comp b))) = [] ↔ ∀ n, has a n → has b n := by
  constructor
  · intro h n hn
    by_cases k : has b n
    · exact k
    · have : has (nf (prod (nf a) (nf (comp b)))) n := by
        rw [nf_has, prod_has, nf_has, nf_has, comp_has hb]; exact ⟨hn, has_In6 ha n hn, k⟩
      rw [h, has_nil] at this; exact this.elim
  · intro h
    refine Nf.unique (nf_Nf _) ⟨by simp, by simp⟩ fun n => ?_
    rw [nf_has, prod_has, nf_has, nf_has, comp_has hb, has_nil]
    exact ⟨fun k => k.2.2 (h n k.1), fun k => k.elim⟩
theorem sub_iff2 {a b : List Rg} (ha : ∀ r ∈ a, In6 r) (hb : ∀ r ∈ b, In6 r) : nf (prod a (comp b)) = [] ↔ ∀ n, has a n → has b n := by
  rw [← sub_iff1 ha hb]
  have : nf (prod a (comp b)) = nf (prod (nf a) (nf (comp b))) := Nf.unique (nf_Nf _) (nf_Nf _) fun n => by rw [nf_has, nf_has, prod_has, prod_has, nf_has, nf_has]
  rw [this]
theorem sub_iff3 {a b : List Rg} : nf (a ++ b) = nf b ↔ ∀ n, has a n → has b n := by
  constructor
  · intro h n hn
    rw [← nf_has b n, ← h, nf_has, has_append]; exact .inl hn
  · intro h
    refine Nf.unique (nf_Nf _) (nf_Nf _) fun n => ?_
    rw [nf_has, nf_has, has_append]
    exact ⟨fun k => k.elim (h n) id, .inr⟩
theorem sub_iff4 {a b : List Rg} : nf (prod (nf a) (nf b)) = nf a ↔ ∀ n, has a n → has b n := by
  constructor
  · intro h n hn
    have : has (nf (prod (nf a) (nf b))) n := by rw [h, nf_has]; exact hn
    rw [nf_has, prod_has, nf_has, nf_has] at this
    exact this.2
  · intro h
    refine Nf.unique (nf_Nf _) (nf_Nf _) fun n => ?_
    rw [nf_has, prod_has, nf_has, nf_has]
    exact ⟨fun k => k.1, fun k => ⟨k, h n k⟩⟩
theorem subsets_law (a b : List Rg) (ha : ∀ r ∈ a, In6 r) (hb : ∀ r ∈ b, In6 r) (n : Int) : PC Try.prog 6 [Sl a, Sl b, I .i64 n] (Bo true) := by
  refine PCB.of_body Try.func6 rfl (by decide) Try.ntmps6 Try.results6 rfl rfl rfl ?_ rfl rfl
  by_cases hsz : a.length ≤ 40
  · have hc : decide ((40 : Int) < (a.length : Int)) = false := by simp; omega
    by_cases hsb : b.length ≤ 40
    · have hc2 : decide ((40 : Int) < (b.length : Int)) = false := by simp; omega
      have h1 := isSubset_c a b ha hb (by omega) (by omega)
      have h2 := subsetRanges_c a b ha hb (by omega) (by omega)
      have h3 := union_c a b ha hb (by omega)
      have h4 := normalize_c b hb (by omega)
      have h5 := intersect_c a b ha hb (by omega) (by omega)
      have h6 := normalize_c a ha (by omega)
      by_cases hs : ∀ n, has a n → has b n
      · have e1 : decide (nf (prod (nf a) (nf (comp b))) = []) = true := by rw [decide_eq_true_eq]; exact (sub_iff1 ha hb).2 hs
        have e2 : decide (nf (prod a (comp b)) = []) = true := by rw [decide_eq_true_eq]; exact (sub_iff2 ha hb).2 hs
        have e3 : decide (nf (a ++ b) = nf b) = true := by rw [decide_eq_true_eq]; exact sub_iff3.2 hs
        have e4 : decide (nf (prod (nf a) (nf b)) = nf a) = true := by rw [decide_eq_true_eq]; exact sub_iff4.2 hs
        cases hx : hasB a n
        ·
          repeat' (first
            | (with_reducible refine seqVC_stepN rfl fun K hK => ?_; (try simp only [go_sem, Nat.reduceBEq, Nat.reduceBNe, Nat.reduceAdd, Nat.reduceSub, Nat.reduceMul, Nat.reduceLeDiff, Nat.reduceLT, reduceCtorEq, Nat.reduceEqDiff, Int.reduceToNat, Int.reduceLE, Int.reduceLT, Int.reduceEq, List.length_map, hc, hc2, e1, e2, e3, e4, hx, beq_self_eq_true]); all_goals fail_if_success guard_target =ₛ False)
            | (with_reducible refine seqVC_stepG rfl (by with_unfolding_all rfl) fun K hK => ?_; (try simp only [go_sem, Nat.reduceBEq, Nat.reduceBNe, Nat.reduceAdd, Nat.reduceSub, Nat.reduceMul, Nat.reduceLeDiff, Nat.reduceLT, reduceCtorEq, Nat.reduceEqDiff, Int.reduceToNat, Int.reduceLE, Int.reduceLT, Int.reduceEq, List.length_map, hc, hc2, e1, e2, e3, e4, hx, beq_self_eq_true]); all_goals fail_if_success guard_target =ₛ False)
            | with_reducible refine seqVC_nil ?_
            | (with_reducible refine hK _ _ ?_; clear hK K)
            | (with_reducible refine hK _ ?_; clear hK K)
            | with_reducible refine AWP.seq fun K hK => ?_
            | (with_reducible refine AWP.seqR (by kernel_rfl) fun K hK => ?_)
            | (with_reducible refine parVC_stepN rfl fun K hK => ?_; (try simp only [go_sem, Nat.reduceBEq, Nat.reduceBNe, Nat.reduceAdd, Nat.reduceSub, Nat.reduceMul, Nat.reduceLeDiff, Nat.reduceLT, reduceCtorEq, Nat.reduceEqDiff, Int.reduceToNat, Int.reduceLE, Int.reduceLT, Int.reduceEq, List.length_map, hc, hc2, e1, e2, e3, e4, hx, beq_self_eq_true]); all_goals fail_if_success guard_target =ₛ False)
            | (with_reducible refine parVC_stepG rfl (by with_unfolding_all rfl) fun K hK => ?_; (try simp only [go_sem, Nat.reduceBEq, Nat.reduceBNe, Nat.reduceAdd, Nat.reduceSub, Nat.reduceMul, Nat.reduceLeDiff, Nat.reduceLT, reduceCtorEq, Nat.reduceEqDiff, Int.reduceToNat, Int.reduceLE, Int.reduceLT, Int.reduceEq, List.length_map, hc, hc2, e1, e2, e3, e4, hx, beq_self_eq_true]); all_goals fail_if_success guard_target =ₛ False)
            | with_reducible refine parVC_nil ?_
            | (with_reducible refine parEVC_stepN rfl fun K hK => ?_; (try simp only [go_sem, Nat.reduceBEq, Nat.reduceBNe, Nat.reduceAdd, Nat.reduceSub, Nat.reduceMul, Nat.reduceLeDiff, Nat.reduceLT, reduceCtorEq, Nat.reduceEqDiff, Int.reduceToNat, Int.reduceLE, Int.reduceLT, Int.reduceEq, List.length_map, hc, hc2, e1, e2, e3, e4, hx, beq_self_eq_true]); all_goals fail_if_success guard_target =ₛ False)
            | (with_reducible refine parEVC_stepG rfl (by with_unfolding_all rfl) fun K hK => ?_; (try simp only [go_sem, Nat.reduceBEq, Nat.reduceBNe, Nat.reduceAdd, Nat.reduceSub, Nat.reduceMul, Nat.reduceLeDiff, Nat.reduceLT, reduceCtorEq, Nat.reduceEqDiff, Int.reduceToNat, Int.reduceLE, Int.reduceLT, Int.reduceEq, List.length_map, hc, hc2, e1, e2, e3, e4, hx, beq_self_eq_true]); all_goals fail_if_success guard_target =ₛ False)
            | with_reducible refine parEVC_nil ?_
            | (with_reducible refine AWP.cond (by with_unfolding_all rfl) (fun h => ?_) (fun h => ?_); all_goals (try simp only [Bool.not_eq_true', Bool.not_eq_false'] at h); (all_goals try first | (exact absurd h Bool.false_ne_true) | (exact absurd h.symm Bool.false_ne_true) | (exact absurd h (by decide))))
            | with_reducible refine AWP.skip ?_
            | with_reducible refine AWP.ret ?_
            | with_reducible refine AWP.block ?_
            | with_reducible refine AWP.exit ?_
            | (with_reducible refine ⟨fun h => ?_, fun h => ?_⟩ <;> (try simp only [Bool.not_eq_true', Bool.not_eq_false'] at h) <;> simp only [h, go_sem, Nat.reduceBEq, Nat.reduceBNe, Nat.reduceAdd, Nat.reduceSub, Nat.reduceMul, Nat.reduceLeDiff, Nat.reduceLT, reduceCtorEq, Nat.reduceEqDiff, Int.reduceToNat, Int.reduceLE, Int.reduceLT, Int.reduceEq, List.length_map, hc, hc2, e1, e2, e3, e4, hx, beq_self_eq_true])
            | (with_reducible refine ⟨_, h1, ?_⟩; try simp only [go_sem, Nat.reduceBEq, Nat.reduceBNe, Nat.reduceAdd, Nat.reduceSub, Nat.reduceMul, Nat.reduceLeDiff, Nat.reduceLT, reduceCtorEq, Nat.reduceEqDiff, Int.reduceToNat, Int.reduceLE, Int.reduceLT, Int.reduceEq, List.length_map, hc, hc2, e1, e2, e3, e4, hx, beq_self_eq_true])
            | (with_reducible refine ⟨_, h2, ?_⟩; try simp only [go_sem, Nat.reduceBEq, Nat.reduceBNe, Nat.reduceAdd, Nat.reduceSub, Nat.reduceMul, Nat.reduceLeDiff, Nat.reduceLT, reduceCtorEq, Nat.reduceEqDiff, Int.reduceToNat, Int.reduceLE, Int.reduceLT, Int.reduceEq, List.length_map, hc, hc2, e1, e2, e3, e4, hx, beq_self_eq_true])
            | (with_reducible refine ⟨_, h3, ?_⟩; try simp only [go_sem, Nat.reduceBEq, Nat.reduceBNe, Nat.reduceAdd, Nat.reduceSub, Nat.reduceMul, Nat.reduceLeDiff, Nat.reduceLT, reduceCtorEq, Nat.reduceEqDiff, Int.reduceToNat, Int.reduceLE, Int.reduceLT, Int.reduceEq, List.length_map, hc, hc2, e1, e2, e3, e4, hx, beq_self_eq_true])
            | (with_reducible refine ⟨_, h4, ?_⟩; try simp only [go_sem, Nat.reduceBEq, Nat.reduceBNe, Nat.reduceAdd, Nat.reduceSub, Nat.reduceMul, Nat.reduceLeDiff, Nat.reduceLT, reduceCtorEq, Nat.reduceEqDiff, Int.reduceToNat, Int.reduceLE, Int.reduceLT, Int.reduceEq, List.length_map, hc, hc2, e1, e2, e3, e4, hx, beq_self_eq_true])
            | (with_reducible refine ⟨_, h5, ?_⟩; try simp only [go_sem, Nat.reduceBEq, Nat.reduceBNe, Nat.reduceAdd, Nat.reduceSub, Nat.reduceMul, Nat.reduceLeDiff, Nat.reduceLT, reduceCtorEq, Nat.reduceEqDiff, Int.reduceToNat, Int.reduceLE, Int.reduceLT, Int.reduceEq, List.length_map, hc, hc2, e1, e2, e3, e4, hx, beq_self_eq_true])
            | (with_reducible refine ⟨_, h6, ?_⟩; try simp only [go_sem, Nat.reduceBEq, Nat.reduceBNe, Nat.reduceAdd, Nat.reduceSub, Nat.reduceMul, Nat.reduceLeDiff, Nat.reduceLT, reduceCtorEq, Nat.reduceEqDiff, Int.reduceToNat, Int.reduceLE, Int.reduceLT, Int.reduceEq, List.length_map, hc, hc2, e1, e2, e3, e4, hx, beq_self_eq_true])
            | (with_reducible refine ⟨_, contains_c _ _, ?_⟩; try simp only [go_sem, Nat.reduceBEq, Nat.reduceBNe, Nat.reduceAdd, Nat.reduceSub, Nat.reduceMul, Nat.reduceLeDiff, Nat.reduceLT, reduceCtorEq, Nat.reduceEqDiff, Int.reduceToNat, Int.reduceLE, Int.reduceLT, Int.reduceEq, List.length_map, hc, hc2, e1, e2, e3, e4, hx, beq_self_eq_true])
            | (with_reducible refine ⟨_, same_c _ _, ?_⟩; try simp only [go_sem, Nat.reduceBEq, Nat.reduceBNe, Nat.reduceAdd, Nat.reduceSub, Nat.reduceMul, Nat.reduceLeDiff, Nat.reduceLT, reduceCtorEq, Nat.reduceEqDiff, Int.reduceToNat, Int.reduceLE, Int.reduceLT, Int.reduceEq, List.length_map, hc, hc2, e1, e2, e3, e4, hx, beq_self_eq_true])
            | (with_reducible refine ⟨_, awake_c, ?_⟩; try simp only [go_sem, Nat.reduceBEq, Nat.reduceBNe, Nat.reduceAdd, Nat.reduceSub, Nat.reduceMul, Nat.reduceLeDiff, Nat.reduceLT, reduceCtorEq, Nat.reduceEqDiff, Int.reduceToNat, Int.reduceLE, Int.reduceLT, Int.reduceEq, List.length_map, hc, hc2, e1, e2, e3, e4, hx, beq_self_eq_true])
            | (with_reducible refine AWP.parR mixed (by kernel_rfl) fun K hK => ?_)
            | (simp only [go_sem, Nat.reduceBEq, Nat.reduceBNe, Nat.reduceAdd, Nat.reduceSub, Nat.reduceMul, Nat.reduceLeDiff, Nat.reduceLT, reduceCtorEq, Nat.reduceEqDiff, Int.reduceToNat, Int.reduceLE, Int.reduceLT, Int.reduceEq, List.length_map, hc, hc2, e1, e2, e3, e4, hx, beq_self_eq_true])
            | (clear hK K))
          all_goals (first | exact fun _ h => (by cases h) | refine fin0 ?_)
        · have hy : hasB b n = true := hasB_iff.2 (hs n (hasB_iff.1 hx))
          repeat' (first
            | (with_reducible refine seqVC_stepN rfl fun K hK => ?_; (try simp only [go_sem, Nat.reduceBEq, Nat.reduceBNe, Nat.reduceAdd, Nat.reduceSub, Nat.reduceMul, Nat.reduceLeDiff, Nat.reduceLT, reduceCtorEq, Nat.reduceEqDiff, Int.reduceToNat, Int.reduceLE, Int.reduceLT, Int.reduceEq, List.length_map, hc, hc2, e1, e2, e3, e4, hx, hy, beq_self_eq_true]); all_goals fail_if_success guard_target =ₛ False)
            | (with_reducible refine seqVC_stepG rfl (by with_unfolding_all rfl) fun K hK => ?_; (try simp only [go_sem, Nat.reduceBEq, Nat.reduceBNe, Nat.reduceAdd, Nat.reduceSub, Nat.reduceMul, Nat.reduceLeDiff, Nat.reduceLT, reduceCtorEq, Nat.reduceEqDiff, Int.reduceToNat, Int.reduceLE, Int.reduceLT, Int.reduceEq, List.length_map, hc, hc2, e1, e2, e3, e4, hx, hy, beq_self_eq_true]); all_goals fail_if_success guard_target =ₛ False)
            | with_reducible refine seqVC_nil ?_
            | (with_reducible refine hK _ _ ?_; clear hK K)
            | (with_reducible refine hK _ ?_; clear hK K)
            | with_reducible refine AWP.seq fun K hK => ?_
            | (with_reducible refine AWP.seqR (by kernel_rfl) fun K hK => ?_)
            | (with_reducible refine parVC_stepN rfl fun K hK => ?_; (try simp only [go_sem, Nat.reduceBEq, Nat.reduceBNe, Nat.reduceAdd, Nat.reduceSub, Nat.reduceMul, Nat.reduceLeDiff, Nat.reduceLT, reduceCtorEq, Nat.reduceEqDiff, Int.reduceToNat, Int.reduceLE, Int.reduceLT, Int.reduceEq, List.length_map, hc, hc2, e1, e2, e3, e4, hx, hy, beq_self_eq_true]); all_goals fail_if_success guard_target =ₛ False)
            | (with_reducible refine parVC_stepG rfl (by with_unfolding_all rfl) fun K hK => ?_; (try simp only [go_sem, Nat.reduceBEq, Nat.reduceBNe, Nat.reduceAdd, Nat.reduceSub, Nat.reduceMul, Nat.reduceLeDiff, Nat.reduceLT, reduceCtorEq, Nat.reduceEqDiff, Int.reduceToNat, Int.reduceLE, Int.reduceLT, Int.reduceEq, List.length_map, hc, hc2, e1, e2, e3, e4, hx, hy, beq_self_eq_true]); all_goals fail_if_success guard_target =ₛ False)
            | with_reducible refine parVC_nil ?_
            | (with_reducible refine parEVC_stepN rfl fun K hK => ?_; (try simp only [go_sem, Nat.reduceBEq, Nat.reduceBNe, Nat.reduceAdd, Nat.reduceSub, Nat.reduceMul, Nat.reduceLeDiff, Nat.reduceLT, reduceCtorEq, Nat.reduceEqDiff, Int.reduceToNat, Int.reduceLE, Int.reduceLT, Int.reduceEq, List.length_map, hc, hc2, e1, e2, e3, e4, hx, hy, beq_self_eq_true]); all_goals fail_if_success guard_target =ₛ False)
            | (with_reducible refine parEVC_stepG rfl (by with_unfolding_all rfl) fun K hK => ?_; (try simp only [go_sem, Nat.reduceBEq, Nat.reduceBNe, Nat.reduceAdd, Nat.reduceSub, Nat.reduceMul, Nat.reduceLeDiff, Nat.reduceLT, reduceCtorEq, Nat.reduceEqDiff, Int.reduceToNat, Int.reduceLE, Int.reduceLT, Int.reduceEq, List.length_map, hc, hc2, e1, e2, e3, e4, hx, hy, beq_self_eq_true]); all_goals fail_if_success guard_target =ₛ False)
            | with_reducible refine parEVC_nil ?_
            | (with_reducible refine AWP.cond (by with_unfolding_all rfl) (fun h => ?_) (fun h => ?_); all_goals (try simp only [Bool.not_eq_true', Bool.not_eq_false'] at h); (all_goals try first | (exact absurd h Bool.false_ne_true) | (exact absurd h.symm Bool.false_ne_true) | (exact absurd h (by decide))))
            | with_reducible refine AWP.skip ?_
            | with_reducible refine AWP.ret ?_
            | with_reducible refine AWP.block ?_
            | with_reducible refine AWP.exit ?_
            | (with_reducible refine ⟨fun h => ?_, fun h => ?_⟩ <;> (try simp only [Bool.not_eq_true', Bool.not_eq_false'] at h) <;> simp only [h, go_sem, Nat.reduceBEq, Nat.reduceBNe, Nat.reduceAdd, Nat.reduceSub, Nat.reduceMul, Nat.reduceLeDiff, Nat.reduceLT, reduceCtorEq, Nat.reduceEqDiff, Int.reduceToNat, Int.reduceLE, Int.reduceLT, Int.reduceEq, List.length_map, hc, hc2, e1, e2, e3, e4, hx, hy, beq_self_eq_true])
            | (with_reducible refine ⟨_, h1, ?_⟩; try simp only [go_sem, Nat.reduceBEq, Nat.reduceBNe, Nat.reduceAdd, Nat.reduceSub, Nat.reduceMul, Nat.reduceLeDiff, Nat.reduceLT, reduceCtorEq, Nat.reduceEqDiff, Int.reduceToNat, Int.reduceLE, Int.reduceLT, Int.reduceEq, List.length_map, hc, hc2, e1, e2, e3, e4, hx, hy, beq_self_eq_true])
            | (with_reducible refine ⟨_, h2, ?_⟩; try simp only [go_sem, Nat.reduceBEq, Nat.reduceBNe, Nat.reduceAdd, Nat.reduceSub, Nat.reduceMul, Nat.reduceLeDiff, Nat.reduceLT, reduceCtorEq, Nat.reduceEqDiff, Int.reduceToNat, Int.reduceLE, Int.reduceLT, Int.reduceEq, List.length_map, hc, hc2, e1, e2, e3, e4, hx, hy, beq_self_eq_true])
            | (with_reducible refine ⟨_, h3, ?_⟩; try simp only [go_sem, Nat.reduceBEq, Nat.reduceBNe, Nat.reduceAdd, Nat.reduceSub, Nat.reduceMul, Nat.reduceLeDiff, Nat.reduceLT, reduceCtorEq, Nat.reduceEqDiff, Int.reduceToNat, Int.reduceLE, Int.reduceLT, Int.reduceEq, List.length_map, hc, hc2, e1, e2, e3, e4, hx, hy, beq_self_eq_true])
            | (with_reducible refine ⟨_, h4, ?_⟩; try simp only [go_sem, Nat.reduceBEq, Nat.reduceBNe, Nat.reduceAdd, Nat.reduceSub, Nat.reduceMul, Nat.reduceLeDiff, Nat.reduceLT, reduceCtorEq, Nat.reduceEqDiff, Int.reduceToNat, Int.reduceLE, Int.reduceLT, Int.reduceEq, List.length_map, hc, hc2, e1, e2, e3, e4, hx, hy, beq_self_eq_true])
            | (with_reducible refine ⟨_, h5, ?_⟩; try simp only [go_sem, Nat.reduceBEq, Nat.reduceBNe, Nat.reduceAdd, Nat.reduceSub, Nat.reduceMul, Nat.reduceLeDiff, Nat.reduceLT, reduceCtorEq, Nat.reduceEqDiff, Int.reduceToNat, Int.reduceLE, Int.reduceLT, Int.reduceEq, List.length_map, hc, hc2, e1, e2, e3, e4, hx, hy, beq_self_eq_true])
            | (with_reducible refine ⟨_, h6, ?_⟩; try simp only [go_sem, Nat.reduceBEq, Nat.reduceBNe, Nat.reduceAdd, Nat.reduceSub, Nat.reduceMul, Nat.reduceLeDiff, Nat.reduceLT, reduceCtorEq, Nat.reduceEqDiff, Int.reduceToNat, Int.reduceLE, Int.reduceLT, Int.reduceEq, List.length_map, hc, hc2, e1, e2, e3, e4, hx, hy, beq_self_eq_true])
            | (with_reducible refine ⟨_, contains_c _ _, ?_⟩; try simp only [go_sem, Nat.reduceBEq, Nat.reduceBNe, Nat.reduceAdd, Nat.reduceSub, Nat.reduceMul, Nat.reduceLeDiff, Nat.reduceLT, reduceCtorEq, Nat.reduceEqDiff, Int.reduceToNat, Int.reduceLE, Int.reduceLT, Int.reduceEq, List.length_map, hc, hc2, e1, e2, e3, e4, hx, hy, beq_self_eq_true])
            | (with_reducible refine ⟨_, same_c _ _, ?_⟩; try simp only [go_sem, Nat.reduceBEq, Nat.reduceBNe, Nat.reduceAdd, Nat.reduceSub, Nat.reduceMul, Nat.reduceLeDiff, Nat.reduceLT, reduceCtorEq, Nat.reduceEqDiff, Int.reduceToNat, Int.reduceLE, Int.reduceLT, Int.reduceEq, List.length_map, hc, hc2, e1, e2, e3, e4, hx, hy, beq_self_eq_true])
            | (with_reducible refine ⟨_, awake_c, ?_⟩; try simp only [go_sem, Nat.reduceBEq, Nat.reduceBNe, Nat.reduceAdd, Nat.reduceSub, Nat.reduceMul, Nat.reduceLeDiff, Nat.reduceLT, reduceCtorEq, Nat.reduceEqDiff, Int.reduceToNat, Int.reduceLE, Int.reduceLT, Int.reduceEq, List.length_map, hc, hc2, e1, e2, e3, e4, hx, hy, beq_self_eq_true])
            | (with_reducible refine AWP.parR mixed (by kernel_rfl) fun K hK => ?_)
            | (simp only [go_sem, Nat.reduceBEq, Nat.reduceBNe, Nat.reduceAdd, Nat.reduceSub, Nat.reduceMul, Nat.reduceLeDiff, Nat.reduceLT, reduceCtorEq, Nat.reduceEqDiff, Int.reduceToNat, Int.reduceLE, Int.reduceLT, Int.reduceEq, List.length_map, hc, hc2, e1, e2, e3, e4, hx, hy, beq_self_eq_true])
            | (clear hK K))
          all_goals (first | exact fun _ h => (by cases h) | refine fin0 ?_)
      · have e1 : decide (nf (prod (nf a) (nf (comp b))) = []) = false := by rw [decide_eq_false_iff_not]; exact fun h => hs ((sub_iff1 ha hb).1 h)
        have e2 : decide (nf (prod a (comp b)) = []) = false := by rw [decide_eq_false_iff_not]; exact fun h => hs ((sub_iff2 ha hb).1 h)
        have e3 : decide (nf (a ++ b) = nf b) = false := by rw [decide_eq_false_iff_not]; exact fun h => hs (sub_iff3.1 h)
        have e4 : decide (nf (prod (nf a) (nf b)) = nf a) = false := by rw [decide_eq_false_iff_not]; exact fun h => hs (sub_iff4.1 h)
        repeat' (first
          | (with_reducible refine seqVC_stepN rfl fun K hK => ?_; (try simp only [go_sem, Nat.reduceBEq, Nat.reduceBNe, Nat.reduceAdd, Nat.reduceSub, Nat.reduceMul, Nat.reduceLeDiff, Nat.reduceLT, reduceCtorEq, Nat.reduceEqDiff, Int.reduceToNat, Int.reduceLE, Int.reduceLT, Int.reduceEq, List.length_map, hc, hc2, e1, e2, e3, e4, beq_self_eq_true]); all_goals fail_if_success guard_target =ₛ False)
          | (with_reducible refine seqVC_stepG rfl (by with_unfolding_all rfl) fun K hK => ?_; (try simp only [go_sem, Nat.reduceBEq, Nat.reduceBNe, Nat.reduceAdd, Nat.reduceSub, Nat.reduceMul, Nat.reduceLeDiff, Nat.reduceLT, reduceCtorEq, Nat.reduceEqDiff, Int.reduceToNat, Int.reduceLE, Int.reduceLT, Int.reduceEq, List.length_map, hc, hc2, e1, e2, e3, e4, beq_self_eq_true]); all_goals fail_if_success guard_target =ₛ False)
          | with_reducible refine seqVC_nil ?_
          | (with_reducible refine hK _ _ ?_; clear hK K)
          | (with_reducible refine hK _ ?_; clear hK K)
          | with_reducible refine AWP.seq fun K hK => ?_
          | (with_reducible refine AWP.seqR (by kernel_rfl) fun K hK => ?_)
          | (with_reducible refine parVC_stepN rfl fun K hK => ?_; (try simp only [go_sem, Nat.reduceBEq, Nat.reduceBNe, Nat.reduceAdd, Nat.reduceSub, Nat.reduceMul, Nat.reduceLeDiff, Nat.reduceLT, reduceCtorEq, Nat.reduceEqDiff, Int.reduceToNat, Int.reduceLE, Int.reduceLT, Int.reduceEq, List.length_map, hc, hc2, e1, e2, e3, e4, beq_self_eq_true]); all_goals fail_if_success guard_target =ₛ False)
          | (with_reducible refine parVC_stepG rfl (by with_unfolding_all rfl) fun K hK => ?_; (try simp only [go_sem, Nat.reduceBEq, Nat.reduceBNe, Nat.reduceAdd, Nat.reduceSub, Nat.reduceMul, Nat.reduceLeDiff, Nat.reduceLT, reduceCtorEq, Nat.reduceEqDiff, Int.reduceToNat, Int.reduceLE, Int.reduceLT, Int.reduceEq, List.length_map, hc, hc2, e1, e2, e3, e4, beq_self_eq_true]); all_goals fail_if_success guard_target =ₛ False)
          | with_reducible refine parVC_nil ?_
          | (with_reducible refine parEVC_stepN rfl fun K hK => ?_; (try simp only [go_sem, Nat.reduceBEq, Nat.reduceBNe, Nat.reduceAdd, Nat.reduceSub, Nat.reduceMul, Nat.reduceLeDiff, Nat.reduceLT, reduceCtorEq, Nat.reduceEqDiff, Int.reduceToNat, Int.reduceLE, Int.reduceLT, Int.reduceEq, List.length_map, hc, hc2, e1, e2, e3, e4, beq_self_eq_true]); all_goals fail_if_success guard_target =ₛ False)
          | (with_reducible refine parEVC_stepG rfl (by with_unfolding_all rfl) fun K hK => ?_; (try simp only [go_sem, Nat.reduceBEq, Nat.reduceBNe, Nat.reduceAdd, Nat.reduceSub, Nat.reduceMul, Nat.reduceLeDiff, Nat.reduceLT, reduceCtorEq, Nat.reduceEqDiff, Int.reduceToNat, Int.reduceLE, Int.reduceLT, Int.reduceEq, List.length_map, hc, hc2, e1, e2, e3, e4, beq_self_eq_true]); all_goals fail_if_success guard_target =ₛ False)
          | with_reducible refine parEVC_nil ?_
          | (with_reducible refine AWP.cond (by with_unfolding_all rfl) (fun h => ?_) (fun h => ?_); all_goals (try simp only [Bool.not_eq_true', Bool.not_eq_false'] at h); (all_goals try first | (exact absurd h Bool.false_ne_true) | (exact absurd h.symm Bool.false_ne_true) | (exact absurd h (by decide))))
          | with_reducible refine AWP.skip ?_
          | with_reducible refine AWP.ret ?_
          | with_reducible refine AWP.block ?_
          | with_reducible refine AWP.exit ?_
          | (with_reducible refine ⟨fun h => ?_, fun h => ?_⟩ <;> (try simp only [Bool.not_eq_true', Bool.not_eq_false'] at h) <;> simp only [h, go_sem, Nat.reduceBEq, Nat.reduceBNe, Nat.reduceAdd, Nat.reduceSub, Nat.reduceMul, Nat.reduceLeDiff, Nat.reduceLT, reduceCtorEq, Nat.reduceEqDiff, Int.reduceToNat, Int.reduceLE, Int.reduceLT, Int.reduceEq, List.length_map, hc, hc2, e1, e2, e3, e4, beq_self_eq_true])
          | (with_reducible refine ⟨_, h1, ?_⟩; try simp only [go_sem, Nat.reduceBEq, Nat.reduceBNe, Nat.reduceAdd, Nat.reduceSub, Nat.reduceMul, Nat.reduceLeDiff, Nat.reduceLT, reduceCtorEq, Nat.reduceEqDiff, Int.reduceToNat, Int.reduceLE, Int.reduceLT, Int.reduceEq, List.length_map, hc, hc2, e1, e2, e3, e4, beq_self_eq_true])
          | (with_reducible refine ⟨_, h2, ?_⟩; try simp only [go_sem, Nat.reduceBEq, Nat.reduceBNe, Nat.reduceAdd, Nat.reduceSub, Nat.reduceMul, Nat.reduceLeDiff, Nat.reduceLT, reduceCtorEq, Nat.reduceEqDiff, Int.reduceToNat, Int.reduceLE, Int.reduceLT, Int.reduceEq, List.length_map, hc, hc2, e1, e2, e3, e4, beq_self_eq_true])
          | (with_reducible refine ⟨_, h3, ?_⟩; try simp only [go_sem, Nat.reduceBEq, Nat.reduceBNe, Nat.reduceAdd, Nat.reduceSub, Nat.reduceMul, Nat.reduceLeDiff, Nat.reduceLT, reduceCtorEq, Nat.reduceEqDiff, Int.reduceToNat, Int.reduceLE, Int.reduceLT, Int.reduceEq, List.length_map, hc, hc2, e1, e2, e3, e4, beq_self_eq_true])
          | (with_reducible refine ⟨_, h4, ?_⟩; try simp only [go_sem, Nat.reduceBEq, Nat.reduceBNe, Nat.reduceAdd, Nat.reduceSub, Nat.reduceMul, Nat.reduceLeDiff, Nat.reduceLT, reduceCtorEq, Nat.reduceEqDiff, Int.reduceToNat, Int.reduceLE, Int.reduceLT, Int.reduceEq, List.length_map, hc, hc2, e1, e2, e3, e4, beq_self_eq_true])
          | (with_reducible refine ⟨_, h5, ?_⟩; try simp only [go_sem, Nat.reduceBEq, Nat.reduceBNe, Nat.reduceAdd, Nat.reduceSub, Nat.reduceMul, Nat.reduceLeDiff, Nat.reduceLT, reduceCtorEq, Nat.reduceEqDiff, Int.reduceToNat, Int.reduceLE, Int.reduceLT, Int.reduceEq, List.length_map, hc, hc2, e1, e2, e3, e4, beq_self_eq_true])
          | (with_reducible refine ⟨_, h6, ?_⟩; try simp only [go_sem, Nat.reduceBEq, Nat.reduceBNe, Nat.reduceAdd, Nat.reduceSub, Nat.reduceMul, Nat.reduceLeDiff, Nat.reduceLT, reduceCtorEq, Nat.reduceEqDiff, Int.reduceToNat, Int.reduceLE, Int.reduceLT, Int.reduceEq, List.length_map, hc, hc2, e1, e2, e3, e4, beq_self_eq_true])
          | (with_reducible refine ⟨_, contains_c _ _, ?_⟩; try simp only [go_sem, Nat.reduceBEq, Nat.reduceBNe, Nat.reduceAdd, Nat.reduceSub, Nat.reduceMul, Nat.reduceLeDiff, Nat.reduceLT, reduceCtorEq, Nat.reduceEqDiff, Int.reduceToNat, Int.reduceLE, Int.reduceLT, Int.reduceEq, List.length_map, hc, hc2, e1, e2, e3, e4, beq_self_eq_true])
          | (with_reducible refine ⟨_, same_c _ _, ?_⟩; try simp only [go_sem, Nat.reduceBEq, Nat.reduceBNe, Nat.reduceAdd, Nat.reduceSub, Nat.reduceMul, Nat.reduceLeDiff, Nat.reduceLT, reduceCtorEq, Nat.reduceEqDiff, Int.reduceToNat, Int.reduceLE, Int.reduceLT, Int.reduceEq, List.length_map, hc, hc2, e1, e2, e3, e4, beq_self_eq_true])
          | (with_reducible refine ⟨_, awake_c, ?_⟩; try simp only [go_sem, Nat.reduceBEq, Nat.reduceBNe, Nat.reduceAdd, Nat.reduceSub, Nat.reduceMul, Nat.reduceLeDiff, Nat.reduceLT, reduceCtorEq, Nat.reduceEqDiff, Int.reduceToNat, Int.reduceLE, Int.reduceLT, Int.reduceEq, List.length_map, hc, hc2, e1, e2, e3, e4, beq_self_eq_true])
          | (with_reducible refine AWP.parR mixed (by kernel_rfl) fun K hK => ?_)
          | (simp only [go_sem, Nat.reduceBEq, Nat.reduceBNe, Nat.reduceAdd, Nat.reduceSub, Nat.reduceMul, Nat.reduceLeDiff, Nat.reduceLT, reduceCtorEq, Nat.reduceEqDiff, Int.reduceToNat, Int.reduceLE, Int.reduceLT, Int.reduceEq, List.length_map, hc, hc2, e1, e2, e3, e4, beq_self_eq_true])
          | (clear hK K))
        all_goals (first | exact fun _ h => (by cases h) | refine fin0 ?_)
    · have hc2 : decide ((40 : Int) < (b.length : Int)) = true := by simp; omega
      repeat' (first
        | (with_reducible refine seqVC_stepN rfl fun K hK => ?_; (try simp only [go_sem, Nat.reduceBEq, Nat.reduceBNe, Nat.reduceAdd, Nat.reduceSub, Nat.reduceMul, Nat.reduceLeDiff, Nat.reduceLT, reduceCtorEq, Nat.reduceEqDiff, Int.reduceToNat, Int.reduceLE, Int.reduceLT, Int.reduceEq, List.length_map, hc, hc2]); all_goals fail_if_success guard_target =ₛ False)
        | (with_reducible refine seqVC_stepG rfl (by with_unfolding_all rfl) fun K hK => ?_; (try simp only [go_sem, Nat.reduceBEq, Nat.reduceBNe, Nat.reduceAdd, Nat.reduceSub, Nat.reduceMul, Nat.reduceLeDiff, Nat.reduceLT, reduceCtorEq, Nat.reduceEqDiff, Int.reduceToNat, Int.reduceLE, Int.reduceLT, Int.reduceEq, List.length_map, hc, hc2]); all_goals fail_if_success guard_target =ₛ False)
        | with_reducible refine seqVC_nil ?_
        | (with_reducible refine hK _ _ ?_; clear hK K)
        | (with_reducible refine hK _ ?_; clear hK K)
        | with_reducible refine AWP.seq fun K hK => ?_
        | (with_reducible refine AWP.seqR (by kernel_rfl) fun K hK => ?_)
        | (with_reducible refine parVC_stepN rfl fun K hK => ?_; (try simp only [go_sem, Nat.reduceBEq, Nat.reduceBNe, Nat.reduceAdd, Nat.reduceSub, Nat.reduceMul, Nat.reduceLeDiff, Nat.reduceLT, reduceCtorEq, Nat.reduceEqDiff, Int.reduceToNat, Int.reduceLE, Int.reduceLT, Int.reduceEq, List.length_map, hc, hc2]); all_goals fail_if_success guard_target =ₛ False)
        | (with_reducible refine parVC_stepG rfl (by with_unfolding_all rfl) fun K hK => ?_; (try simp only [go_sem, Nat.reduceBEq, Nat.reduceBNe, Nat.reduceAdd, Nat.reduceSub, Nat.reduceMul, Nat.reduceLeDiff, Nat.reduceLT, reduceCtorEq, Nat.reduceEqDiff, Int.reduceToNat, Int.reduceLE, Int.reduceLT, Int.reduceEq, List.length_map, hc, hc2]); all_goals fail_if_success guard_target =ₛ False)
        | with_reducible refine parVC_nil ?_
        | (with_reducible refine parEVC_stepN rfl fun K hK => ?_; (try simp only [go_sem, Nat.reduceBEq, Nat.reduceBNe, Nat.reduceAdd, Nat.reduceSub, Nat.reduceMul, Nat.reduceLeDiff, Nat.reduceLT, reduceCtorEq, Nat.reduceEqDiff, Int.reduceToNat, Int.reduceLE, Int.reduceLT, Int.reduceEq, List.length_map, hc, hc2]); all_goals fail_if_success guard_target =ₛ False)
        | (with_reducible refine parEVC_stepG rfl (by with_unfolding_all rfl) fun K hK => ?_; (try simp only [go_sem, Nat.reduceBEq, Nat.reduceBNe, Nat.reduceAdd, Nat.reduceSub, Nat.reduceMul, Nat.reduceLeDiff, Nat.reduceLT, reduceCtorEq, Nat.reduceEqDiff, Int.reduceToNat, Int.reduceLE, Int.reduceLT, Int.reduceEq, List.length_map, hc, hc2]); all_goals fail_if_success guard_target =ₛ False)
        | with_reducible refine parEVC_nil ?_
        | (with_reducible refine AWP.cond (by with_unfolding_all rfl) (fun h => ?_) (fun h => ?_); all_goals (try simp only [Bool.not_eq_true', Bool.not_eq_false'] at h); (all_goals try first | (exact absurd h Bool.false_ne_true) | (exact absurd h.symm Bool.false_ne_true) | (exact absurd h (by decide))))
        | with_reducible refine AWP.skip ?_
        | with_reducible refine AWP.ret ?_
        | with_reducible refine AWP.block ?_
        | with_reducible refine AWP.exit ?_
        | (with_reducible refine ⟨fun h => ?_, fun h => ?_⟩ <;> (try simp only [Bool.not_eq_true', Bool.not_eq_false'] at h) <;> simp only [h, go_sem, Nat.reduceBEq, Nat.reduceBNe, Nat.reduceAdd, Nat.reduceSub, Nat.reduceMul, Nat.reduceLeDiff, Nat.reduceLT, reduceCtorEq, Nat.reduceEqDiff, Int.reduceToNat, Int.reduceLE, Int.reduceLT, Int.reduceEq, List.length_map, hc, hc2])
        | (with_reducible refine ⟨_, awake_c, ?_⟩; try simp only [go_sem, Nat.reduceBEq, Nat.reduceBNe, Nat.reduceAdd, Nat.reduceSub, Nat.reduceMul, Nat.reduceLeDiff, Nat.reduceLT, reduceCtorEq, Nat.reduceEqDiff, Int.reduceToNat, Int.reduceLE, Int.reduceLT, Int.reduceEq, List.length_map, hc, hc2])
        | (with_reducible refine AWP.parR mixed (by kernel_rfl) fun K hK => ?_)
        | (simp only [go_sem, Nat.reduceBEq, Nat.reduceBNe, Nat.reduceAdd, Nat.reduceSub, Nat.reduceMul, Nat.reduceLeDiff, Nat.reduceLT, reduceCtorEq, Nat.reduceEqDiff, Int.reduceToNat, Int.reduceLE, Int.reduceLT, Int.reduceEq, List.length_map, hc, hc2])
        | (clear hK K))
      all_goals (first | exact fun _ h => (by cases h) | refine fin0 ?_)
  · have hc : decide ((40 : Int) < (a.length : Int)) = true := by simp; omega
    repeat' (first
      | (with_reducible refine seqVC_stepN rfl fun K hK => ?_; (try simp only [go_sem, Nat.reduceBEq, Nat.reduceBNe, Nat.reduceAdd, Nat.reduceSub, Nat.reduceMul, Nat.reduceLeDiff, Nat.reduceLT, reduceCtorEq, Nat.reduceEqDiff, Int.reduceToNat, Int.reduceLE, Int.reduceLT, Int.reduceEq, List.length_map, hc]); all_goals fail_if_success guard_target =ₛ False)
      | (with_reducible refine seqVC_stepG rfl (by with_unfolding_all rfl) fun K hK => ?_; (try simp only [go_sem, Nat.reduceBEq, Nat.reduceBNe, Nat.reduceAdd, Nat.reduceSub, Nat.reduceMul, Nat.reduceLeDiff, Nat.reduceLT, reduceCtorEq, Nat.reduceEqDiff, Int.reduceToNat, Int.reduceLE, Int.reduceLT, Int.reduceEq, List.length_map, hc]); all_goals fail_if_success guard_target =ₛ False)
      | with_reducible refine seqVC_nil ?_
      | (with_reducible refine hK _ _ ?_; clear hK K)
      | (with_reducible refine hK _ ?_; clear hK K)
      | with_reducible refine AWP.seq fun K hK => ?_
      | (with_reducible refine AWP.seqR (by kernel_rfl) fun K hK => ?_)
      | (with_reducible refine parVC_stepN rfl fun K hK => ?_; (try simp only [go_sem, Nat.reduceBEq, Nat.reduceBNe, Nat.reduceAdd, Nat.reduceSub, Nat.reduceMul, Nat.reduceLeDiff, Nat.reduceLT, reduceCtorEq, Nat.reduceEqDiff, Int.reduceToNat, Int.reduceLE, Int.reduceLT, Int.reduceEq, List.length_map, hc]); all_goals fail_if_success guard_target =ₛ False)
      | (with_reducible refine parVC_stepG rfl (by with_unfolding_all rfl) fun K hK => ?_; (try simp only [go_sem, Nat.reduceBEq, Nat.reduceBNe, Nat.reduceAdd, Nat.reduceSub, Nat.reduceMul, Nat.reduceLeDiff, Nat.reduceLT, reduceCtorEq, Nat.reduceEqDiff, Int.reduceToNat, Int.reduceLE, Int.reduceLT, Int.reduceEq, List.length_map, hc]); all_goals fail_if_success guard_target =ₛ False)
      | with_reducible refine parVC_nil ?_
      | (with_reducible refine parEVC_stepN rfl fun K hK => ?_; (try simp only [go_sem, Nat.reduceBEq, Nat.reduceBNe, Nat.reduceAdd, Nat.reduceSub, Nat.reduceMul, Nat.reduceLeDiff, Nat.reduceLT, reduceCtorEq, Nat.reduceEqDiff, Int.reduceToNat, Int.reduceLE, Int.reduceLT, Int.reduceEq, List.length_map, hc]); all_goals fail_if_success guard_target =ₛ False)
      | (with_reducible refine parEVC_stepG rfl (by with_unfolding_all rfl) fun K hK => ?_; (try simp only [go_sem, Nat.reduceBEq, Nat.reduceBNe, Nat.reduceAdd, Nat.reduceSub, Nat.reduceMul, Nat.reduceLeDiff, Nat.reduceLT, reduceCtorEq, Nat.reduceEqDiff, Int.reduceToNat, Int.reduceLE, Int.reduceLT, Int.reduceEq, List.length_map, hc]); all_goals fail_if_success guard_target =ₛ False)
      | with_reducible refine parEVC_nil ?_
      | (with_reducible refine AWP.cond (by with_unfolding_all rfl) (fun h => ?_) (fun h => ?_); all_goals (try simp only [Bool.not_eq_true', Bool.not_eq_false'] at h); (all_goals try first | (exact absurd h Bool.false_ne_true) | (exact absurd h.symm Bool.false_ne_true) | (exact absurd h (by decide))))
      | with_reducible refine AWP.skip ?_
      | with_reducible refine AWP.ret ?_
      | with_reducible refine AWP.block ?_
      | with_reducible refine AWP.exit ?_
      | (with_reducible refine ⟨fun h => ?_, fun h => ?_⟩ <;> (try simp only [Bool.not_eq_true', Bool.not_eq_false'] at h) <;> simp only [h, go_sem, Nat.reduceBEq, Nat.reduceBNe, Nat.reduceAdd, Nat.reduceSub, Nat.reduceMul, Nat.reduceLeDiff, Nat.reduceLT, reduceCtorEq, Nat.reduceEqDiff, Int.reduceToNat, Int.reduceLE, Int.reduceLT, Int.reduceEq, List.length_map, hc])
      | (with_reducible refine ⟨_, awake_c, ?_⟩; try simp only [go_sem, Nat.reduceBEq, Nat.reduceBNe, Nat.reduceAdd, Nat.reduceSub, Nat.reduceMul, Nat.reduceLeDiff, Nat.reduceLT, reduceCtorEq, Nat.reduceEqDiff, Int.reduceToNat, Int.reduceLE, Int.reduceLT, Int.reduceEq, List.length_map, hc])
      | (with_reducible refine AWP.parR mixed (by kernel_rfl) fun K hK => ?_)
      | (simp only [go_sem, Nat.reduceBEq, Nat.reduceBNe, Nat.reduceAdd, Nat.reduceSub, Nat.reduceMul, Nat.reduceLeDiff, Nat.reduceLT, reduceCtorEq, Nat.reduceEqDiff, Int.reduceToNat, Int.reduceLE, Int.reduceLT, Int.reduceEq, List.length_map, hc])
      | (clear hK K))
    all_goals (first | exact fun _ h => (by cases h) | refine fin0 ?_)
end Go.Proofs.Ytjpkddhpkohiaaa
