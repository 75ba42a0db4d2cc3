/- A part of the proof: lemmas about the walk of the program and about plain integers and lists. No conditions beyond those that each lemma states. -/
import Derived.Test.YtjpkddhpkohiaaaL2T3
set_option linter.unusedSimpArgs false
set_option linter.unusedVariables false
set_option maxRecDepth 20000
set_option maxHeartbeats 400000
namespace Go.Proofs.Ytjpkddhpkohiaaa
open Go Go.Sx Go.Ivl

theorem meet_if (r q : Rg) : (⟨if q.lo > r.lo then q.lo else r.lo, if q.hi < r.hi then q.hi else r.hi⟩ : Rg) = meet r q := by
  unfold meet
  congr 1
  · split <;> omega
  · split <;> omega
theorem encR_mk (a b : Int) : ([.int .i64 a, .int .i64 b] : List C) = encR ⟨a, b⟩ := rfl
theorem prod_cons (r : Rg) (a b : List Rg) : prod (r :: a) b = b.map (meet r) ++ prod a b := by simp [prod]

theorem intersectRanges_c (a b : List Rg) (ha : ∀ r ∈ a, In6 r) (hb : ∀ r ∈ b, In6 r) (hsz : a.length * b.length ≤ 100000) : PC Try.prog 29 [Sl a, Sl b] (Sl (nf (prod a b))) := by
  refine PCB.of_body Try.func29 rfl (by decide) Try.ntmps29 Try.results29 rfl rfl rfl ?_ rfl rfl
  refine AWP.len 0 rfl fun hla => ?_
  refine AWP.len 1 rfl fun hlb => ?_
  rw [List.length_map] at hla hlb
  repeat' (first
    | (with_reducible refine seqVC_stepN rfl fun K hK => ?_; (try simp only [go_sem, Nat.reduceBEq, Nat.reduceBNe, Nat.reduceAdd, Nat.reduceSub, Nat.reduceMul, Nat.reduceLeDiff, Nat.reduceLT, reduceCtorEq, Nat.reduceEqDiff, Int.reduceToNat, Int.reduceLE, Int.reduceLT, Int.reduceEq, List.length_map]); all_goals fail_if_success guard_target =ₛ False)
    | (with_reducible refine seqVC_stepG rfl (by with_unfolding_all rfl) fun K hK => ?_; (try simp only [go_sem, Nat.reduceBEq, Nat.reduceBNe, Nat.reduceAdd, Nat.reduceSub, Nat.reduceMul, Nat.reduceLeDiff, Nat.reduceLT, reduceCtorEq, Nat.reduceEqDiff, Int.reduceToNat, Int.reduceLE, Int.reduceLT, Int.reduceEq, List.length_map]); all_goals fail_if_success guard_target =ₛ False)
    | with_reducible refine seqVC_nil ?_
    | (with_reducible refine hK _ _ ?_; clear hK K)
    | (with_reducible refine hK _ ?_; clear hK K)
    | with_reducible refine AWP.seq fun K hK => ?_
    | (with_reducible refine AWP.seqR (by kernel_rfl) fun K hK => ?_)
    | (with_reducible refine parVC_stepN rfl fun K hK => ?_; (try simp only [go_sem, Nat.reduceBEq, Nat.reduceBNe, Nat.reduceAdd, Nat.reduceSub, Nat.reduceMul, Nat.reduceLeDiff, Nat.reduceLT, reduceCtorEq, Nat.reduceEqDiff, Int.reduceToNat, Int.reduceLE, Int.reduceLT, Int.reduceEq, List.length_map]); all_goals fail_if_success guard_target =ₛ False)
    | (with_reducible refine parVC_stepG rfl (by with_unfolding_all rfl) fun K hK => ?_; (try simp only [go_sem, Nat.reduceBEq, Nat.reduceBNe, Nat.reduceAdd, Nat.reduceSub, Nat.reduceMul, Nat.reduceLeDiff, Nat.reduceLT, reduceCtorEq, Nat.reduceEqDiff, Int.reduceToNat, Int.reduceLE, Int.reduceLT, Int.reduceEq, List.length_map]); all_goals fail_if_success guard_target =ₛ False)
    | with_reducible refine parVC_nil ?_
    | (with_reducible refine parEVC_stepN rfl fun K hK => ?_; (try simp only [go_sem, Nat.reduceBEq, Nat.reduceBNe, Nat.reduceAdd, Nat.reduceSub, Nat.reduceMul, Nat.reduceLeDiff, Nat.reduceLT, reduceCtorEq, Nat.reduceEqDiff, Int.reduceToNat, Int.reduceLE, Int.reduceLT, Int.reduceEq, List.length_map]); all_goals fail_if_success guard_target =ₛ False)
    | (with_reducible refine parEVC_stepG rfl (by with_unfolding_all rfl) fun K hK => ?_; (try simp only [go_sem, Nat.reduceBEq, Nat.reduceBNe, Nat.reduceAdd, Nat.reduceSub, Nat.reduceMul, Nat.reduceLeDiff, Nat.reduceLT, reduceCtorEq, Nat.reduceEqDiff, Int.reduceToNat, Int.reduceLE, Int.reduceLT, Int.reduceEq, List.length_map]); all_goals fail_if_success guard_target =ₛ False)
    | with_reducible refine parEVC_nil ?_
    | (with_reducible refine AWP.cond (by with_unfolding_all rfl) (fun h => ?_) (fun h => ?_); all_goals (try simp only [Bool.not_eq_true', Bool.not_eq_false'] at h); (all_goals try first | (exact absurd h Bool.false_ne_true) | (exact absurd h.symm Bool.false_ne_true) | (exact absurd h (by decide))))
    | with_reducible refine AWP.skip ?_
    | with_reducible refine AWP.ret ?_
    | with_reducible refine AWP.block ?_
    | with_reducible refine AWP.exit ?_
    | (with_reducible refine ⟨fun h => ?_, fun h => ?_⟩ <;> (try simp only [Bool.not_eq_true', Bool.not_eq_false'] at h) <;> simp only [h, go_sem, Nat.reduceBEq, Nat.reduceBNe, Nat.reduceAdd, Nat.reduceSub, Nat.reduceMul, Nat.reduceLeDiff, Nat.reduceLT, reduceCtorEq, Nat.reduceEqDiff, Int.reduceToNat, Int.reduceLE, Int.reduceLT, Int.reduceEq, List.length_map])
    | (with_reducible refine AWP.parR mixed (by kernel_rfl) fun K hK => ?_)
    | (simp only [go_sem, Nat.reduceBEq, Nat.reduceBNe, Nat.reduceAdd, Nat.reduceSub, Nat.reduceMul, Nat.reduceLeDiff, Nat.reduceLT, reduceCtorEq, Nat.reduceEqDiff, Int.reduceToNat, Int.reduceLE, Int.reduceLT, Int.reduceEq, List.length_map])
    | (clear hK K))
  refine AWP.gh (Gh.nilrow 5 900 rfl rfl rfl rfl) ?_
  refine AWP.loopS (X := Nat × List Rg) (fun x => [(6, I .i64 x.1), (0, Sl a), (1, Sl b), (5, Ow 900 x.2)]) (fun x => [Rw 900 x.2])
    (fun x => x.1 ≤ a.length ∧ prod a b = x.2 ++ prod (a.drop x.1) b ∧ x.2.length = x.1 * b.length) (fun x => a.length - x.1) (0, []) (Gh.to [] (by repeat (first | exact trivial | refine ⟨rfl, ?_⟩)) (by repeat (first | exact trivial | refine ⟨rfl, ?_⟩)) rfl rfl rfl) ⟨Nat.zero_le _, rfl, by simp⟩ ?_
  rintro ⟨k, out⟩ ⟨hk, hp, ho⟩
  simp only at hk hp ho
  by_cases hlt : k < a.length
  · obtain ⟨d, hd, hd', hx, hdrop⟩ := at_lt (enc := encR) hlt
    rw [hdrop, prod_cons] at hp
    have hkb : k * b.length + b.length ≤ a.length * b.length := by
      have := Nat.mul_le_mul_right b.length (show k + 1 ≤ a.length from hlt)
      rwa [Nat.add_mul, Nat.one_mul] at this
    repeat' (first
      | (with_reducible refine seqVC_stepN rfl fun K hK => ?_; (try simp only [go_sem, Nat.reduceBEq, Nat.reduceBNe, Nat.reduceAdd, Nat.reduceSub, Nat.reduceMul, Nat.reduceLeDiff, Nat.reduceLT, reduceCtorEq, Nat.reduceEqDiff, Int.reduceToNat, Int.reduceLE, Int.reduceLT, Int.reduceEq, List.length_map, hx]); all_goals fail_if_success guard_target =ₛ False)
      | (with_reducible refine seqVC_stepG rfl (by with_unfolding_all rfl) fun K hK => ?_; (try simp only [go_sem, Nat.reduceBEq, Nat.reduceBNe, Nat.reduceAdd, Nat.reduceSub, Nat.reduceMul, Nat.reduceLeDiff, Nat.reduceLT, reduceCtorEq, Nat.reduceEqDiff, Int.reduceToNat, Int.reduceLE, Int.reduceLT, Int.reduceEq, List.length_map, hx]); all_goals fail_if_success guard_target =ₛ False)
      | with_reducible refine seqVC_nil ?_
      | (with_reducible refine hK _ _ ?_; clear hK K)
      | (with_reducible refine hK _ ?_; clear hK K)
      | with_reducible refine AWP.seq fun K hK => ?_
      | (with_reducible refine AWP.seqR (by kernel_rfl) fun K hK => ?_)
      | (with_reducible refine parVC_stepN rfl fun K hK => ?_; (try simp only [go_sem, Nat.reduceBEq, Nat.reduceBNe, Nat.reduceAdd, Nat.reduceSub, Nat.reduceMul, Nat.reduceLeDiff, Nat.reduceLT, reduceCtorEq, Nat.reduceEqDiff, Int.reduceToNat, Int.reduceLE, Int.reduceLT, Int.reduceEq, List.length_map, hx]); all_goals fail_if_success guard_target =ₛ False)
      | (with_reducible refine parVC_stepG rfl (by with_unfolding_all rfl) fun K hK => ?_; (try simp only [go_sem, Nat.reduceBEq, Nat.reduceBNe, Nat.reduceAdd, Nat.reduceSub, Nat.reduceMul, Nat.reduceLeDiff, Nat.reduceLT, reduceCtorEq, Nat.reduceEqDiff, Int.reduceToNat, Int.reduceLE, Int.reduceLT, Int.reduceEq, List.length_map, hx]); all_goals fail_if_success guard_target =ₛ False)
      | with_reducible refine parVC_nil ?_
      | (with_reducible refine parEVC_stepN rfl fun K hK => ?_; (try simp only [go_sem, Nat.reduceBEq, Nat.reduceBNe, Nat.reduceAdd, Nat.reduceSub, Nat.reduceMul, Nat.reduceLeDiff, Nat.reduceLT, reduceCtorEq, Nat.reduceEqDiff, Int.reduceToNat, Int.reduceLE, Int.reduceLT, Int.reduceEq, List.length_map, hx]); all_goals fail_if_success guard_target =ₛ False)
      | (with_reducible refine parEVC_stepG rfl (by with_unfolding_all rfl) fun K hK => ?_; (try simp only [go_sem, Nat.reduceBEq, Nat.reduceBNe, Nat.reduceAdd, Nat.reduceSub, Nat.reduceMul, Nat.reduceLeDiff, Nat.reduceLT, reduceCtorEq, Nat.reduceEqDiff, Int.reduceToNat, Int.reduceLE, Int.reduceLT, Int.reduceEq, List.length_map, hx]); all_goals fail_if_success guard_target =ₛ False)
      | with_reducible refine parEVC_nil ?_
      | (with_reducible refine AWP.cond (by with_unfolding_all rfl) (fun h => ?_) (fun h => ?_); all_goals (try simp only [Bool.not_eq_true', Bool.not_eq_false'] at h); (all_goals try first | (exact absurd h Bool.false_ne_true) | (exact absurd h.symm Bool.false_ne_true) | (exact absurd h (by decide))))
      | with_reducible refine AWP.skip ?_
      | with_reducible refine AWP.ret ?_
      | with_reducible refine AWP.block ?_
      | with_reducible refine AWP.exit ?_
      | (with_reducible refine ⟨fun h => ?_, fun h => ?_⟩ <;> (try simp only [Bool.not_eq_true', Bool.not_eq_false'] at h) <;> simp only [h, go_sem, Nat.reduceBEq, Nat.reduceBNe, Nat.reduceAdd, Nat.reduceSub, Nat.reduceMul, Nat.reduceLeDiff, Nat.reduceLT, reduceCtorEq, Nat.reduceEqDiff, Int.reduceToNat, Int.reduceLE, Int.reduceLT, Int.reduceEq, List.length_map, hx])
      | (with_reducible refine AWP.parR mixed (by kernel_rfl) fun K hK => ?_)
      | (simp only [go_sem, Nat.reduceBEq, Nat.reduceBNe, Nat.reduceAdd, Nat.reduceSub, Nat.reduceMul, Nat.reduceLeDiff, Nat.reduceLT, reduceCtorEq, Nat.reduceEqDiff, Int.reduceToNat, Int.reduceLE, Int.reduceLT, Int.reduceEq, List.length_map, hx])
      | (clear hK K))
    refine AWP.loopS (X := Nat × List Rg) (fun x => [(7, I .i64 x.1), (6, I .i64 k), (0, Sl a), (1, Sl b), (5, Ow 900 x.2)]) (fun x => [Rw 900 x.2])
      (fun x => x.1 ≤ b.length ∧ out ++ b.map (meet d) = x.2 ++ (b.drop x.1).map (meet d) ∧ x.2.length = k * b.length + x.1) (fun x => b.length - x.1) (0, out) (Gh.to [] (by repeat (first | exact trivial | refine ⟨rfl, ?_⟩)) (by repeat (first | exact trivial | refine ⟨rfl, ?_⟩)) rfl rfl rfl) ⟨Nat.zero_le _, rfl, by simpa using ho⟩ ?_
    rintro ⟨m, out2⟩ ⟨hm, hq, ho2⟩
    simp only at hm hq ho2
    by_cases hlm : m < b.length
    · obtain ⟨x, hx1, hx', hb2, hdx⟩ := at_lt (enc := encR) hlm
      rw [hdx, List.map_cons] at hq
      repeat' (first
        | (with_reducible refine seqVC_stepN rfl fun K hK => ?_; (try simp only [go_sem, Nat.reduceBEq, Nat.reduceBNe, Nat.reduceAdd, Nat.reduceSub, Nat.reduceMul, Nat.reduceLeDiff, Nat.reduceLT, reduceCtorEq, Nat.reduceEqDiff, Int.reduceToNat, Int.reduceLE, Int.reduceLT, Int.reduceEq, List.length_map, hb2]); all_goals fail_if_success guard_target =ₛ False)
        | (with_reducible refine seqVC_stepG rfl (by with_unfolding_all rfl) fun K hK => ?_; (try simp only [go_sem, Nat.reduceBEq, Nat.reduceBNe, Nat.reduceAdd, Nat.reduceSub, Nat.reduceMul, Nat.reduceLeDiff, Nat.reduceLT, reduceCtorEq, Nat.reduceEqDiff, Int.reduceToNat, Int.reduceLE, Int.reduceLT, Int.reduceEq, List.length_map, hb2]); all_goals fail_if_success guard_target =ₛ False)
        | with_reducible refine seqVC_nil ?_
        | (with_reducible refine hK _ _ ?_; clear hK K)
        | (with_reducible refine hK _ ?_; clear hK K)
        | with_reducible refine AWP.seq fun K hK => ?_
        | (with_reducible refine AWP.seqR (by kernel_rfl) fun K hK => ?_)
        | (with_reducible refine parVC_stepN rfl fun K hK => ?_; (try simp only [go_sem, Nat.reduceBEq, Nat.reduceBNe, Nat.reduceAdd, Nat.reduceSub, Nat.reduceMul, Nat.reduceLeDiff, Nat.reduceLT, reduceCtorEq, Nat.reduceEqDiff, Int.reduceToNat, Int.reduceLE, Int.reduceLT, Int.reduceEq, List.length_map, hb2]); all_goals fail_if_success guard_target =ₛ False)
        | (with_reducible refine parVC_stepG rfl (by with_unfolding_all rfl) fun K hK => ?_; (try simp only [go_sem, Nat.reduceBEq, Nat.reduceBNe, Nat.reduceAdd, Nat.reduceSub, Nat.reduceMul, Nat.reduceLeDiff, Nat.reduceLT, reduceCtorEq, Nat.reduceEqDiff, Int.reduceToNat, Int.reduceLE, Int.reduceLT, Int.reduceEq, List.length_map, hb2]); all_goals fail_if_success guard_target =ₛ False)
        | with_reducible refine parVC_nil ?_
        | (with_reducible refine parEVC_stepN rfl fun K hK => ?_; (try simp only [go_sem, Nat.reduceBEq, Nat.reduceBNe, Nat.reduceAdd, Nat.reduceSub, Nat.reduceMul, Nat.reduceLeDiff, Nat.reduceLT, reduceCtorEq, Nat.reduceEqDiff, Int.reduceToNat, Int.reduceLE, Int.reduceLT, Int.reduceEq, List.length_map, hb2]); all_goals fail_if_success guard_target =ₛ False)
        | (with_reducible refine parEVC_stepG rfl (by with_unfolding_all rfl) fun K hK => ?_; (try simp only [go_sem, Nat.reduceBEq, Nat.reduceBNe, Nat.reduceAdd, Nat.reduceSub, Nat.reduceMul, Nat.reduceLeDiff, Nat.reduceLT, reduceCtorEq, Nat.reduceEqDiff, Int.reduceToNat, Int.reduceLE, Int.reduceLT, Int.reduceEq, List.length_map, hb2]); all_goals fail_if_success guard_target =ₛ False)
        | with_reducible refine parEVC_nil ?_
        | (with_reducible refine AWP.cond (by with_unfolding_all rfl) (fun h => ?_) (fun h => ?_); all_goals (try simp only [Bool.not_eq_true', Bool.not_eq_false'] at h); (all_goals try first | (exact absurd h Bool.false_ne_true) | (exact absurd h.symm Bool.false_ne_true) | (exact absurd h (by decide))))
        | with_reducible refine AWP.skip ?_
        | with_reducible refine AWP.ret ?_
        | with_reducible refine AWP.block ?_
        | with_reducible refine AWP.exit ?_
        | (with_reducible refine ⟨fun h => ?_, fun h => ?_⟩ <;> (try simp only [Bool.not_eq_true', Bool.not_eq_false'] at h) <;> simp only [h, go_sem, Nat.reduceBEq, Nat.reduceBNe, Nat.reduceAdd, Nat.reduceSub, Nat.reduceMul, Nat.reduceLeDiff, Nat.reduceLT, reduceCtorEq, Nat.reduceEqDiff, Int.reduceToNat, Int.reduceLE, Int.reduceLT, Int.reduceEq, List.length_map, hb2])
        | (with_reducible refine ⟨by omega, encR d, hd', ?_⟩)
        | (with_reducible refine ⟨by omega, encR x, hx', ?_⟩)
        | (with_reducible refine ⟨by omega, ?_⟩)
        | (with_reducible refine AWP.segP 25 mixed (by kernel_rfl) fun K hK => ?_; simp only [List.take_succ_cons, List.take_zero, List.drop_succ_cons, List.drop_zero])
        | (with_reducible refine AWP.parR mixed (by kernel_rfl) fun K hK => ?_)
        | (simp only [go_sem, Nat.reduceBEq, Nat.reduceBNe, Nat.reduceAdd, Nat.reduceSub, Nat.reduceMul, Nat.reduceLeDiff, Nat.reduceLT, reduceCtorEq, Nat.reduceEqDiff, Int.reduceToNat, Int.reduceLE, Int.reduceLT, Int.reduceEq, List.length_map, hb2])
        | (clear hK K))
      rw [wrap_succ hlm hlb]
      simp only [encR_mk, meet_if, map_snoc, List.length_map]
      refine ⟨(m + 1, out2 ++ [meet d x]), by simp only; omega, ⟨by simp only; omega, by simpa using hq, by simp [ho2]; omega⟩, Gh.to [(900, 45)] (by repeat (first | exact trivial | refine ⟨rfl, ?_⟩)) (by repeat (first | exact trivial | refine ⟨rfl, ?_⟩)) rfl rfl rfl⟩
    · obtain ⟨hb2, hdx⟩ := at_ge hlm
      rw [hdx] at hq
      repeat' (first
        | (with_reducible refine seqVC_stepN rfl fun K hK => ?_; (try simp only [go_sem, Nat.reduceBEq, Nat.reduceBNe, Nat.reduceAdd, Nat.reduceSub, Nat.reduceMul, Nat.reduceLeDiff, Nat.reduceLT, reduceCtorEq, Nat.reduceEqDiff, Int.reduceToNat, Int.reduceLE, Int.reduceLT, Int.reduceEq, List.length_map, hb2]); all_goals fail_if_success guard_target =ₛ False)
        | (with_reducible refine seqVC_stepG rfl (by with_unfolding_all rfl) fun K hK => ?_; (try simp only [go_sem, Nat.reduceBEq, Nat.reduceBNe, Nat.reduceAdd, Nat.reduceSub, Nat.reduceMul, Nat.reduceLeDiff, Nat.reduceLT, reduceCtorEq, Nat.reduceEqDiff, Int.reduceToNat, Int.reduceLE, Int.reduceLT, Int.reduceEq, List.length_map, hb2]); all_goals fail_if_success guard_target =ₛ False)
        | with_reducible refine seqVC_nil ?_
        | (with_reducible refine hK _ _ ?_; clear hK K)
        | (with_reducible refine hK _ ?_; clear hK K)
        | with_reducible refine AWP.seq fun K hK => ?_
        | (with_reducible refine AWP.seqR (by kernel_rfl) fun K hK => ?_)
        | (with_reducible refine parVC_stepN rfl fun K hK => ?_; (try simp only [go_sem, Nat.reduceBEq, Nat.reduceBNe, Nat.reduceAdd, Nat.reduceSub, Nat.reduceMul, Nat.reduceLeDiff, Nat.reduceLT, reduceCtorEq, Nat.reduceEqDiff, Int.reduceToNat, Int.reduceLE, Int.reduceLT, Int.reduceEq, List.length_map, hb2]); all_goals fail_if_success guard_target =ₛ False)
        | (with_reducible refine parVC_stepG rfl (by with_unfolding_all rfl) fun K hK => ?_; (try simp only [go_sem, Nat.reduceBEq, Nat.reduceBNe, Nat.reduceAdd, Nat.reduceSub, Nat.reduceMul, Nat.reduceLeDiff, Nat.reduceLT, reduceCtorEq, Nat.reduceEqDiff, Int.reduceToNat, Int.reduceLE, Int.reduceLT, Int.reduceEq, List.length_map, hb2]); all_goals fail_if_success guard_target =ₛ False)
        | with_reducible refine parVC_nil ?_
        | (with_reducible refine parEVC_stepN rfl fun K hK => ?_; (try simp only [go_sem, Nat.reduceBEq, Nat.reduceBNe, Nat.reduceAdd, Nat.reduceSub, Nat.reduceMul, Nat.reduceLeDiff, Nat.reduceLT, reduceCtorEq, Nat.reduceEqDiff, Int.reduceToNat, Int.reduceLE, Int.reduceLT, Int.reduceEq, List.length_map, hb2]); all_goals fail_if_success guard_target =ₛ False)
        | (with_reducible refine parEVC_stepG rfl (by with_unfolding_all rfl) fun K hK => ?_; (try simp only [go_sem, Nat.reduceBEq, Nat.reduceBNe, Nat.reduceAdd, Nat.reduceSub, Nat.reduceMul, Nat.reduceLeDiff, Nat.reduceLT, reduceCtorEq, Nat.reduceEqDiff, Int.reduceToNat, Int.reduceLE, Int.reduceLT, Int.reduceEq, List.length_map, hb2]); all_goals fail_if_success guard_target =ₛ False)
        | with_reducible refine parEVC_nil ?_
        | (with_reducible refine AWP.cond (by with_unfolding_all rfl) (fun h => ?_) (fun h => ?_); all_goals (try simp only [Bool.not_eq_true', Bool.not_eq_false'] at h); (all_goals try first | (exact absurd h Bool.false_ne_true) | (exact absurd h.symm Bool.false_ne_true) | (exact absurd h (by decide))))
        | with_reducible refine AWP.skip ?_
        | with_reducible refine AWP.ret ?_
        | with_reducible refine AWP.block ?_
        | with_reducible refine AWP.exit ?_
        | (with_reducible refine ⟨fun h => ?_, fun h => ?_⟩ <;> (try simp only [Bool.not_eq_true', Bool.not_eq_false'] at h) <;> simp only [h, go_sem, Nat.reduceBEq, Nat.reduceBNe, Nat.reduceAdd, Nat.reduceSub, Nat.reduceMul, Nat.reduceLeDiff, Nat.reduceLT, reduceCtorEq, Nat.reduceEqDiff, Int.reduceToNat, Int.reduceLE, Int.reduceLT, Int.reduceEq, List.length_map, hb2])
        | (with_reducible refine AWP.parR mixed (by kernel_rfl) fun K hK => ?_)
        | (simp only [go_sem, Nat.reduceBEq, Nat.reduceBNe, Nat.reduceAdd, Nat.reduceSub, Nat.reduceMul, Nat.reduceLeDiff, Nat.reduceLT, reduceCtorEq, Nat.reduceEqDiff, Int.reduceToNat, Int.reduceLE, Int.reduceLT, Int.reduceEq, List.length_map, hb2])
        | (clear hK K))
      rw [wrap_succ hlt hla]
      refine ⟨(k + 1, out2), by simp only; omega, ⟨by simp only; omega, ?_, ?_⟩, Gh.to [] (by repeat (first | exact trivial | refine ⟨rfl, ?_⟩)) (by repeat (first | exact trivial | refine ⟨rfl, ?_⟩)) rfl rfl rfl⟩
      · rw [hp, ← List.append_assoc, hq]; simp
      · simp only [ho2, Nat.add_mul, Nat.one_mul]; omega
  · obtain ⟨hx, hdrop⟩ := at_ge hlt
    rw [hdrop] at hp
    have hpe : out = prod a b := by rw [hp]; simp [prod]
    refine AWP.gh (Gh.freeze 900 rfl rfl (by simp only [go_sem, Nat.reduceBEq, Nat.reduceBNe, Nat.reduceAdd, Nat.reduceSub, Nat.reduceMul, Nat.reduceLeDiff, Nat.reduceLT, reduceCtorEq, Nat.reduceEqDiff, Int.reduceToNat, Int.reduceLE, Int.reduceLT, Int.reduceEq, List.length_map]) (by simp only [go_sem, Nat.reduceBEq, Nat.reduceBNe, Nat.reduceAdd, Nat.reduceSub, Nat.reduceMul, Nat.reduceLeDiff, Nat.reduceLT, reduceCtorEq, Nat.reduceEqDiff, Int.reduceToNat, Int.reduceLE, Int.reduceLT, Int.reduceEq])) ?_
    simp only [go_sem, Nat.reduceBEq, Nat.reduceBNe, Nat.reduceAdd, Nat.reduceSub, Nat.reduceMul, Nat.reduceLeDiff, Nat.reduceLT, reduceCtorEq, Nat.reduceEqDiff, Int.reduceToNat, Int.reduceLE, Int.reduceLT, Int.reduceEq, List.length_map]
    have hall : ∀ r ∈ out, In6 r := by rw [hpe]; exact prod_In6 ha hb
    have hol : out.length ≤ 100000 := by rw [hpe, prod_len]; exact hsz
    repeat' (first
      | (with_reducible refine seqVC_stepN rfl fun K hK => ?_; (try simp only [go_sem, Nat.reduceBEq, Nat.reduceBNe, Nat.reduceAdd, Nat.reduceSub, Nat.reduceMul, Nat.reduceLeDiff, Nat.reduceLT, reduceCtorEq, Nat.reduceEqDiff, Int.reduceToNat, Int.reduceLE, Int.reduceLT, Int.reduceEq, List.length_map, hx]); all_goals fail_if_success guard_target =ₛ False)
      | (with_reducible refine seqVC_stepG rfl (by with_unfolding_all rfl) fun K hK => ?_; (try simp only [go_sem, Nat.reduceBEq, Nat.reduceBNe, Nat.reduceAdd, Nat.reduceSub, Nat.reduceMul, Nat.reduceLeDiff, Nat.reduceLT, reduceCtorEq, Nat.reduceEqDiff, Int.reduceToNat, Int.reduceLE, Int.reduceLT, Int.reduceEq, List.length_map, hx]); all_goals fail_if_success guard_target =ₛ False)
      | with_reducible refine seqVC_nil ?_
      | (with_reducible refine hK _ _ ?_; clear hK K)
      | (with_reducible refine hK _ ?_; clear hK K)
      | with_reducible refine AWP.seq fun K hK => ?_
      | (with_reducible refine AWP.seqR (by kernel_rfl) fun K hK => ?_)
      | (with_reducible refine parVC_stepN rfl fun K hK => ?_; (try simp only [go_sem, Nat.reduceBEq, Nat.reduceBNe, Nat.reduceAdd, Nat.reduceSub, Nat.reduceMul, Nat.reduceLeDiff, Nat.reduceLT, reduceCtorEq, Nat.reduceEqDiff, Int.reduceToNat, Int.reduceLE, Int.reduceLT, Int.reduceEq, List.length_map, hx]); all_goals fail_if_success guard_target =ₛ False)
      | (with_reducible refine parVC_stepG rfl (by with_unfolding_all rfl) fun K hK => ?_; (try simp only [go_sem, Nat.reduceBEq, Nat.reduceBNe, Nat.reduceAdd, Nat.reduceSub, Nat.reduceMul, Nat.reduceLeDiff, Nat.reduceLT, reduceCtorEq, Nat.reduceEqDiff, Int.reduceToNat, Int.reduceLE, Int.reduceLT, Int.reduceEq, List.length_map, hx]); all_goals fail_if_success guard_target =ₛ False)
      | with_reducible refine parVC_nil ?_
      | (with_reducible refine parEVC_stepN rfl fun K hK => ?_; (try simp only [go_sem, Nat.reduceBEq, Nat.reduceBNe, Nat.reduceAdd, Nat.reduceSub, Nat.reduceMul, Nat.reduceLeDiff, Nat.reduceLT, reduceCtorEq, Nat.reduceEqDiff, Int.reduceToNat, Int.reduceLE, Int.reduceLT, Int.reduceEq, List.length_map, hx]); all_goals fail_if_success guard_target =ₛ False)
      | (with_reducible refine parEVC_stepG rfl (by with_unfolding_all rfl) fun K hK => ?_; (try simp only [go_sem, Nat.reduceBEq, Nat.reduceBNe, Nat.reduceAdd, Nat.reduceSub, Nat.reduceMul, Nat.reduceLeDiff, Nat.reduceLT, reduceCtorEq, Nat.reduceEqDiff, Int.reduceToNat, Int.reduceLE, Int.reduceLT, Int.reduceEq, List.length_map, hx]); all_goals fail_if_success guard_target =ₛ False)
      | with_reducible refine parEVC_nil ?_
      | (with_reducible refine AWP.cond (by with_unfolding_all rfl) (fun h => ?_) (fun h => ?_); all_goals (try simp only [Bool.not_eq_true', Bool.not_eq_false'] at h); (all_goals try first | (exact absurd h Bool.false_ne_true) | (exact absurd h.symm Bool.false_ne_true) | (exact absurd h (by decide))))
      | with_reducible refine AWP.skip ?_
      | with_reducible refine AWP.ret ?_
      | with_reducible refine AWP.block ?_
      | with_reducible refine AWP.exit ?_
      | (with_reducible refine ⟨fun h => ?_, fun h => ?_⟩ <;> (try simp only [Bool.not_eq_true', Bool.not_eq_false'] at h) <;> simp only [h, go_sem, Nat.reduceBEq, Nat.reduceBNe, Nat.reduceAdd, Nat.reduceSub, Nat.reduceMul, Nat.reduceLeDiff, Nat.reduceLT, reduceCtorEq, Nat.reduceEqDiff, Int.reduceToNat, Int.reduceLE, Int.reduceLT, Int.reduceEq, List.length_map, hx])
      | (with_reducible refine ⟨_, normalRanges_c out hall hol, ?_⟩; try simp only [go_sem, Nat.reduceBEq, Nat.reduceBNe, Nat.reduceAdd, Nat.reduceSub, Nat.reduceMul, Nat.reduceLeDiff, Nat.reduceLT, reduceCtorEq, Nat.reduceEqDiff, Int.reduceToNat, Int.reduceLE, Int.reduceLT, Int.reduceEq, List.length_map, hx])
      | (with_reducible refine AWP.parR mixed (by kernel_rfl) fun K hK => ?_)
      | (simp only [go_sem, Nat.reduceBEq, Nat.reduceBNe, Nat.reduceAdd, Nat.reduceSub, Nat.reduceMul, Nat.reduceLeDiff, Nat.reduceLT, reduceCtorEq, Nat.reduceEqDiff, Int.reduceToNat, Int.reduceLE, Int.reduceLT, Int.reduceEq, List.length_map, hx])
      | (clear hK K))
    all_goals (first | exact fun _ h => (by cases h) | refine fin0 ?_)
    all_goals rw [hpe]

def upF : List Rg → Int
  | [] => 0
  | r :: l => bif decide (0 < r.lo) then r.lo else upF l
def downStep (s : Int) (r : Rg) : Int := bif decide (r.hi < 0) then r.hi else s
def leastR (l : List Rg) : Int × Bool :=
  bif decide (l = []) then (0, false) else bif hasB l 0 then (0, true) else
  bif decide (l.foldl downStep 0 = 0) || (decide (0 < upF l) && decide (IntKind.i64.wrap (upF l - 1) ≤ IntKind.i64.wrap (0 - IntKind.i64.wrap (l.foldl downStep 0 + 1)))) then (upF l, true) else (l.foldl downStep 0, true)

theorem leastInt_c (s : List Rg) (hs : ∀ r ∈ s, In6 r) (hsz : s.length ≤ 100000) : PC Try.prog 10 [Sl s] (.tup [I .i64 (leastR (nf s)).1, Bo (leastR (nf s)).2]) := by
  refine PCB.of_body Try.func10 rfl (by decide) Try.ntmps10 Try.results10 rfl rfl rfl ?_ rfl rfl
  have hl : (nf s).length ≤ 100000 := Nat.le_trans (nf_len s) hsz
  have hnf := normalRanges_c s hs hsz
  generalize hln : nf s = l at *
  cases l with
  | nil =>
    have h0 : decide ((([] : List Rg).length : Int) = 0) = true := rfl
    repeat' (first
      | (with_reducible refine seqVC_stepN rfl fun K hK => ?_; (try simp only [go_sem, Nat.reduceBEq, Nat.reduceBNe, Nat.reduceAdd, Nat.reduceSub, Nat.reduceMul, Nat.reduceLeDiff, Nat.reduceLT, reduceCtorEq, Nat.reduceEqDiff, Int.reduceToNat, Int.reduceLE, Int.reduceLT, Int.reduceEq, List.length_map, h0, List.map_nil]); all_goals fail_if_success guard_target =ₛ False)
      | (with_reducible refine seqVC_stepG rfl (by with_unfolding_all rfl) fun K hK => ?_; (try simp only [go_sem, Nat.reduceBEq, Nat.reduceBNe, Nat.reduceAdd, Nat.reduceSub, Nat.reduceMul, Nat.reduceLeDiff, Nat.reduceLT, reduceCtorEq, Nat.reduceEqDiff, Int.reduceToNat, Int.reduceLE, Int.reduceLT, Int.reduceEq, List.length_map, h0, List.map_nil]); all_goals fail_if_success guard_target =ₛ False)
      | with_reducible refine seqVC_nil ?_
      | (with_reducible refine hK _ _ ?_; clear hK K)
      | (with_reducible refine hK _ ?_; clear hK K)
      | with_reducible refine AWP.seq fun K hK => ?_
      | (with_reducible refine AWP.seqR (by kernel_rfl) fun K hK => ?_)
      | (with_reducible refine parVC_stepN rfl fun K hK => ?_; (try simp only [go_sem, Nat.reduceBEq, Nat.reduceBNe, Nat.reduceAdd, Nat.reduceSub, Nat.reduceMul, Nat.reduceLeDiff, Nat.reduceLT, reduceCtorEq, Nat.reduceEqDiff, Int.reduceToNat, Int.reduceLE, Int.reduceLT, Int.reduceEq, List.length_map, h0, List.map_nil]); all_goals fail_if_success guard_target =ₛ False)
      | (with_reducible refine parVC_stepG rfl (by with_unfolding_all rfl) fun K hK => ?_; (try simp only [go_sem, Nat.reduceBEq, Nat.reduceBNe, Nat.reduceAdd, Nat.reduceSub, Nat.reduceMul, Nat.reduceLeDiff, Nat.reduceLT, reduceCtorEq, Nat.reduceEqDiff, Int.reduceToNat, Int.reduceLE, Int.reduceLT, Int.reduceEq, List.length_map, h0, List.map_nil]); all_goals fail_if_success guard_target =ₛ False)
      | with_reducible refine parVC_nil ?_
      | (with_reducible refine parEVC_stepN rfl fun K hK => ?_; (try simp only [go_sem, Nat.reduceBEq, Nat.reduceBNe, Nat.reduceAdd, Nat.reduceSub, Nat.reduceMul, Nat.reduceLeDiff, Nat.reduceLT, reduceCtorEq, Nat.reduceEqDiff, Int.reduceToNat, Int.reduceLE, Int.reduceLT, Int.reduceEq, List.length_map, h0, List.map_nil]); all_goals fail_if_success guard_target =ₛ False)
      | (with_reducible refine parEVC_stepG rfl (by with_unfolding_all rfl) fun K hK => ?_; (try simp only [go_sem, Nat.reduceBEq, Nat.reduceBNe, Nat.reduceAdd, Nat.reduceSub, Nat.reduceMul, Nat.reduceLeDiff, Nat.reduceLT, reduceCtorEq, Nat.reduceEqDiff, Int.reduceToNat, Int.reduceLE, Int.reduceLT, Int.reduceEq, List.length_map, h0, List.map_nil]); all_goals fail_if_success guard_target =ₛ False)
      | with_reducible refine parEVC_nil ?_
      | (with_reducible refine AWP.cond (by with_unfolding_all rfl) (fun h => ?_) (fun h => ?_); all_goals (try simp only [Bool.not_eq_true', Bool.not_eq_false'] at h); (all_goals try first | (exact absurd h Bool.false_ne_true) | (exact absurd h.symm Bool.false_ne_true) | (exact absurd h (by decide))))
      | with_reducible refine AWP.skip ?_
      | with_reducible refine AWP.ret ?_
      | with_reducible refine AWP.block ?_
      | with_reducible refine AWP.exit ?_
      | (with_reducible refine ⟨fun h => ?_, fun h => ?_⟩ <;> (try simp only [Bool.not_eq_true', Bool.not_eq_false'] at h) <;> simp only [h, go_sem, Nat.reduceBEq, Nat.reduceBNe, Nat.reduceAdd, Nat.reduceSub, Nat.reduceMul, Nat.reduceLeDiff, Nat.reduceLT, reduceCtorEq, Nat.reduceEqDiff, Int.reduceToNat, Int.reduceLE, Int.reduceLT, Int.reduceEq, List.length_map, h0, List.map_nil])
      | (with_reducible refine ⟨_, hnf, ?_⟩; try simp only [go_sem, Nat.reduceBEq, Nat.reduceBNe, Nat.reduceAdd, Nat.reduceSub, Nat.reduceMul, Nat.reduceLeDiff, Nat.reduceLT, reduceCtorEq, Nat.reduceEqDiff, Int.reduceToNat, Int.reduceLE, Int.reduceLT, Int.reduceEq, List.length_map, h0, List.map_nil])
      | (with_reducible refine AWP.parR mixed (by kernel_rfl) fun K hK => ?_)
      | (simp only [go_sem, Nat.reduceBEq, Nat.reduceBNe, Nat.reduceAdd, Nat.reduceSub, Nat.reduceMul, Nat.reduceLeDiff, Nat.reduceLT, reduceCtorEq, Nat.reduceEqDiff, Int.reduceToNat, Int.reduceLE, Int.reduceLT, Int.reduceEq, List.length_map, h0, List.map_nil])
      | (clear hK K))
    all_goals (first | exact fun _ h => (by cases h) | refine fin0 ?_)
    all_goals rfl
  | cons r0 l0 =>
    have h0 : decide ((((r0 :: l0).length : Nat) : Int) = 0) = false := by simp; omega
    have hne : decide ((r0 :: l0) = []) = false := by simp
    generalize (r0 :: l0) = l at *
    have hi := hasInt_c l 0
    cases hz : hasB l 0
    · rw [hz] at hi
      have hlen : IntKind.i64.wrap ((l.length : Int) - 1) = (l.length : Int) - 1 := by rw [w64 (by omega)]
      repeat' (first
        | (with_reducible refine seqVC_stepN rfl fun K hK => ?_; (try simp only [go_sem, Nat.reduceBEq, Nat.reduceBNe, Nat.reduceAdd, Nat.reduceSub, Nat.reduceMul, Nat.reduceLeDiff, Nat.reduceLT, reduceCtorEq, Nat.reduceEqDiff, Int.reduceToNat, Int.reduceLE, Int.reduceLT, Int.reduceEq, List.length_map, h0, hlen]); all_goals fail_if_success guard_target =ₛ False)
        | (with_reducible refine seqVC_stepG rfl (by with_unfolding_all rfl) fun K hK => ?_; (try simp only [go_sem, Nat.reduceBEq, Nat.reduceBNe, Nat.reduceAdd, Nat.reduceSub, Nat.reduceMul, Nat.reduceLeDiff, Nat.reduceLT, reduceCtorEq, Nat.reduceEqDiff, Int.reduceToNat, Int.reduceLE, Int.reduceLT, Int.reduceEq, List.length_map, h0, hlen]); all_goals fail_if_success guard_target =ₛ False)
        | with_reducible refine seqVC_nil ?_
        | (with_reducible refine hK _ _ ?_; clear hK K)
        | (with_reducible refine hK _ ?_; clear hK K)
        | with_reducible refine AWP.seq fun K hK => ?_
        | (with_reducible refine AWP.seqR (by kernel_rfl) fun K hK => ?_)
        | (with_reducible refine parVC_stepN rfl fun K hK => ?_; (try simp only [go_sem, Nat.reduceBEq, Nat.reduceBNe, Nat.reduceAdd, Nat.reduceSub, Nat.reduceMul, Nat.reduceLeDiff, Nat.reduceLT, reduceCtorEq, Nat.reduceEqDiff, Int.reduceToNat, Int.reduceLE, Int.reduceLT, Int.reduceEq, List.length_map, h0, hlen]); all_goals fail_if_success guard_target =ₛ False)
        | (with_reducible refine parVC_stepG rfl (by with_unfolding_all rfl) fun K hK => ?_; (try simp only [go_sem, Nat.reduceBEq, Nat.reduceBNe, Nat.reduceAdd, Nat.reduceSub, Nat.reduceMul, Nat.reduceLeDiff, Nat.reduceLT, reduceCtorEq, Nat.reduceEqDiff, Int.reduceToNat, Int.reduceLE, Int.reduceLT, Int.reduceEq, List.length_map, h0, hlen]); all_goals fail_if_success guard_target =ₛ False)
        | with_reducible refine parVC_nil ?_
        | (with_reducible refine parEVC_stepN rfl fun K hK => ?_; (try simp only [go_sem, Nat.reduceBEq, Nat.reduceBNe, Nat.reduceAdd, Nat.reduceSub, Nat.reduceMul, Nat.reduceLeDiff, Nat.reduceLT, reduceCtorEq, Nat.reduceEqDiff, Int.reduceToNat, Int.reduceLE, Int.reduceLT, Int.reduceEq, List.length_map, h0, hlen]); all_goals fail_if_success guard_target =ₛ False)
        | (with_reducible refine parEVC_stepG rfl (by with_unfolding_all rfl) fun K hK => ?_; (try simp only [go_sem, Nat.reduceBEq, Nat.reduceBNe, Nat.reduceAdd, Nat.reduceSub, Nat.reduceMul, Nat.reduceLeDiff, Nat.reduceLT, reduceCtorEq, Nat.reduceEqDiff, Int.reduceToNat, Int.reduceLE, Int.reduceLT, Int.reduceEq, List.length_map, h0, hlen]); all_goals fail_if_success guard_target =ₛ False)
        | with_reducible refine parEVC_nil ?_
        | (with_reducible refine AWP.cond (by with_unfolding_all rfl) (fun h => ?_) (fun h => ?_); all_goals (try simp only [Bool.not_eq_true', Bool.not_eq_false'] at h); (all_goals try first | (exact absurd h Bool.false_ne_true) | (exact absurd h.symm Bool.false_ne_true) | (exact absurd h (by decide))))
        | with_reducible refine AWP.skip ?_
        | with_reducible refine AWP.ret ?_
        | with_reducible refine AWP.block ?_
        | with_reducible refine AWP.exit ?_
        | (with_reducible refine ⟨fun h => ?_, fun h => ?_⟩ <;> (try simp only [Bool.not_eq_true', Bool.not_eq_false'] at h) <;> simp only [h, go_sem, Nat.reduceBEq, Nat.reduceBNe, Nat.reduceAdd, Nat.reduceSub, Nat.reduceMul, Nat.reduceLeDiff, Nat.reduceLT, reduceCtorEq, Nat.reduceEqDiff, Int.reduceToNat, Int.reduceLE, Int.reduceLT, Int.reduceEq, List.length_map, h0, hlen])
        | (with_reducible refine ⟨_, hnf, ?_⟩; try simp only [go_sem, Nat.reduceBEq, Nat.reduceBNe, Nat.reduceAdd, Nat.reduceSub, Nat.reduceMul, Nat.reduceLeDiff, Nat.reduceLT, reduceCtorEq, Nat.reduceEqDiff, Int.reduceToNat, Int.reduceLE, Int.reduceLT, Int.reduceEq, List.length_map, h0, hlen])
        | (with_reducible refine ⟨_, hi, ?_⟩; try simp only [go_sem, Nat.reduceBEq, Nat.reduceBNe, Nat.reduceAdd, Nat.reduceSub, Nat.reduceMul, Nat.reduceLeDiff, Nat.reduceLT, reduceCtorEq, Nat.reduceEqDiff, Int.reduceToNat, Int.reduceLE, Int.reduceLT, Int.reduceEq, List.length_map, h0, hlen])
        | (with_reducible refine AWP.parR mixed (by kernel_rfl) fun K hK => ?_)
        | (simp only [go_sem, Nat.reduceBEq, Nat.reduceBNe, Nat.reduceAdd, Nat.reduceSub, Nat.reduceMul, Nat.reduceLeDiff, Nat.reduceLT, reduceCtorEq, Nat.reduceEqDiff, Int.reduceToNat, Int.reduceLE, Int.reduceLT, Int.reduceEq, List.length_map, h0, hlen])
        | (clear hK K))
      refine AWP.loopS (X := Nat × Int) (fun x => [(7, I .i64 ((x.1 : Int) - 1)), (4, Sl l), (6, I .i64 0), (5, I .i64 x.2)]) (fun _ => []) (fun x => x.1 ≤ l.length ∧ x.2 = upF (l.drop x.1)) (fun x => x.1) (l.length, 0) (Gh.to [] (by repeat (first | exact trivial | refine ⟨rfl, ?_⟩)) (by repeat (first | exact trivial | refine ⟨rfl, ?_⟩)) rfl rfl rfl) ⟨Nat.le_refl _, by simp [upF]⟩ ?_
      rintro ⟨k, up⟩ ⟨hk, hp⟩
      simp only at hk hp
      cases k with
      | zero =>
        have hge : decide ((0 : Int) ≤ ((0 : Nat) : Int) - 1) = false := by decide
        repeat' (first
          | (with_reducible refine seqVC_stepN rfl fun K hK => ?_; (try simp only [go_sem, Nat.reduceBEq, Nat.reduceBNe, Nat.reduceAdd, Nat.reduceSub, Nat.reduceMul, Nat.reduceLeDiff, Nat.reduceLT, reduceCtorEq, Nat.reduceEqDiff, Int.reduceToNat, Int.reduceLE, Int.reduceLT, Int.reduceEq, List.length_map, hge]); all_goals fail_if_success guard_target =ₛ False)
          | (with_reducible refine seqVC_stepG rfl (by with_unfolding_all rfl) fun K hK => ?_; (try simp only [go_sem, Nat.reduceBEq, Nat.reduceBNe, Nat.reduceAdd, Nat.reduceSub, Nat.reduceMul, Nat.reduceLeDiff, Nat.reduceLT, reduceCtorEq, Nat.reduceEqDiff, Int.reduceToNat, Int.reduceLE, Int.reduceLT, Int.reduceEq, List.length_map, hge]); all_goals fail_if_success guard_target =ₛ False)
          | with_reducible refine seqVC_nil ?_
          | (with_reducible refine hK _ _ ?_; clear hK K)
          | (with_reducible refine hK _ ?_; clear hK K)
          | with_reducible refine AWP.seq fun K hK => ?_
          | (with_reducible refine AWP.seqR (by kernel_rfl) fun K hK => ?_)
          | (with_reducible refine parVC_stepN rfl fun K hK => ?_; (try simp only [go_sem, Nat.reduceBEq, Nat.reduceBNe, Nat.reduceAdd, Nat.reduceSub, Nat.reduceMul, Nat.reduceLeDiff, Nat.reduceLT, reduceCtorEq, Nat.reduceEqDiff, Int.reduceToNat, Int.reduceLE, Int.reduceLT, Int.reduceEq, List.length_map, hge]); all_goals fail_if_success guard_target =ₛ False)
          | (with_reducible refine parVC_stepG rfl (by with_unfolding_all rfl) fun K hK => ?_; (try simp only [go_sem, Nat.reduceBEq, Nat.reduceBNe, Nat.reduceAdd, Nat.reduceSub, Nat.reduceMul, Nat.reduceLeDiff, Nat.reduceLT, reduceCtorEq, Nat.reduceEqDiff, Int.reduceToNat, Int.reduceLE, Int.reduceLT, Int.reduceEq, List.length_map, hge]); all_goals fail_if_success guard_target =ₛ False)
          | with_reducible refine parVC_nil ?_
          | (with_reducible refine parEVC_stepN rfl fun K hK => ?_; (try simp only [go_sem, Nat.reduceBEq, Nat.reduceBNe, Nat.reduceAdd, Nat.reduceSub, Nat.reduceMul, Nat.reduceLeDiff, Nat.reduceLT, reduceCtorEq, Nat.reduceEqDiff, Int.reduceToNat, Int.reduceLE, Int.reduceLT, Int.reduceEq, List.length_map, hge]); all_goals fail_if_success guard_target =ₛ False)
          | (with_reducible refine parEVC_stepG rfl (by with_unfolding_all rfl) fun K hK => ?_; (try simp only [go_sem, Nat.reduceBEq, Nat.reduceBNe, Nat.reduceAdd, Nat.reduceSub, Nat.reduceMul, Nat.reduceLeDiff, Nat.reduceLT, reduceCtorEq, Nat.reduceEqDiff, Int.reduceToNat, Int.reduceLE, Int.reduceLT, Int.reduceEq, List.length_map, hge]); all_goals fail_if_success guard_target =ₛ False)
          | with_reducible refine parEVC_nil ?_
          | (with_reducible refine AWP.cond (by with_unfolding_all rfl) (fun h => ?_) (fun h => ?_); all_goals (try simp only [Bool.not_eq_true', Bool.not_eq_false'] at h); (all_goals try first | (exact absurd h Bool.false_ne_true) | (exact absurd h.symm Bool.false_ne_true) | (exact absurd h (by decide))))
          | with_reducible refine AWP.skip ?_
          | with_reducible refine AWP.ret ?_
          | with_reducible refine AWP.block ?_
          | with_reducible refine AWP.exit ?_
          | (with_reducible refine ⟨fun h => ?_, fun h => ?_⟩ <;> (try simp only [Bool.not_eq_true', Bool.not_eq_false'] at h) <;> simp only [h, go_sem, Nat.reduceBEq, Nat.reduceBNe, Nat.reduceAdd, Nat.reduceSub, Nat.reduceMul, Nat.reduceLeDiff, Nat.reduceLT, reduceCtorEq, Nat.reduceEqDiff, Int.reduceToNat, Int.reduceLE, Int.reduceLT, Int.reduceEq, List.length_map, hge])
          | (with_reducible refine AWP.parR mixed (by kernel_rfl) fun K hK => ?_)
          | (simp only [go_sem, Nat.reduceBEq, Nat.reduceBNe, Nat.reduceAdd, Nat.reduceSub, Nat.reduceMul, Nat.reduceLeDiff, Nat.reduceLT, reduceCtorEq, Nat.reduceEqDiff, Int.reduceToNat, Int.reduceLE, Int.reduceLT, Int.reduceEq, List.length_map, hge])
          | (clear hK K))
        refine AWP.loopS (X := Nat × Int) (fun x => [(8, I .i64 x.1), (4, Sl l), (6, I .i64 x.2), (5, I .i64 up)]) (fun _ => []) (fun x => x.1 ≤ l.length ∧ l.foldl downStep 0 = (l.drop x.1).foldl downStep x.2) (fun x => l.length - x.1) (0, 0) (Gh.to [] (by repeat (first | exact trivial | refine ⟨rfl, ?_⟩)) (by repeat (first | exact trivial | refine ⟨rfl, ?_⟩)) rfl rfl rfl) ⟨Nat.zero_le _, rfl⟩ ?_
        rintro ⟨m, dn⟩ ⟨hm, hq⟩
        simp only at hm hq
        by_cases hlm : m < l.length
        · obtain ⟨d, hd, hd', hb, hdrop⟩ := at_lt (enc := encR) hlm
          rw [hdrop, List.foldl_cons] at hq
          repeat' (first
            | (with_reducible refine seqVC_stepN rfl fun K hK => ?_; (try simp only [go_sem, Nat.reduceBEq, Nat.reduceBNe, Nat.reduceAdd, Nat.reduceSub, Nat.reduceMul, Nat.reduceLeDiff, Nat.reduceLT, reduceCtorEq, Nat.reduceEqDiff, Int.reduceToNat, Int.reduceLE, Int.reduceLT, Int.reduceEq, List.length_map, hb]); all_goals fail_if_success guard_target =ₛ False)
            | (with_reducible refine seqVC_stepG rfl (by with_unfolding_all rfl) fun K hK => ?_; (try simp only [go_sem, Nat.reduceBEq, Nat.reduceBNe, Nat.reduceAdd, Nat.reduceSub, Nat.reduceMul, Nat.reduceLeDiff, Nat.reduceLT, reduceCtorEq, Nat.reduceEqDiff, Int.reduceToNat, Int.reduceLE, Int.reduceLT, Int.reduceEq, List.length_map, hb]); all_goals fail_if_success guard_target =ₛ False)
            | with_reducible refine seqVC_nil ?_
            | (with_reducible refine hK _ _ ?_; clear hK K)
            | (with_reducible refine hK _ ?_; clear hK K)
            | with_reducible refine AWP.seq fun K hK => ?_
            | (with_reducible refine AWP.seqR (by kernel_rfl) fun K hK => ?_)
            | (with_reducible refine parVC_stepN rfl fun K hK => ?_; (try simp only [go_sem, Nat.reduceBEq, Nat.reduceBNe, Nat.reduceAdd, Nat.reduceSub, Nat.reduceMul, Nat.reduceLeDiff, Nat.reduceLT, reduceCtorEq, Nat.reduceEqDiff, Int.reduceToNat, Int.reduceLE, Int.reduceLT, Int.reduceEq, List.length_map, hb]); all_goals fail_if_success guard_target =ₛ False)
            | (with_reducible refine parVC_stepG rfl (by with_unfolding_all rfl) fun K hK => ?_; (try simp only [go_sem, Nat.reduceBEq, Nat.reduceBNe, Nat.reduceAdd, Nat.reduceSub, Nat.reduceMul, Nat.reduceLeDiff, Nat.reduceLT, reduceCtorEq, Nat.reduceEqDiff, Int.reduceToNat, Int.reduceLE, Int.reduceLT, Int.reduceEq, List.length_map, hb]); all_goals fail_if_success guard_target =ₛ False)
            | with_reducible refine parVC_nil ?_
            | (with_reducible refine parEVC_stepN rfl fun K hK => ?_; (try simp only [go_sem, Nat.reduceBEq, Nat.reduceBNe, Nat.reduceAdd, Nat.reduceSub, Nat.reduceMul, Nat.reduceLeDiff, Nat.reduceLT, reduceCtorEq, Nat.reduceEqDiff, Int.reduceToNat, Int.reduceLE, Int.reduceLT, Int.reduceEq, List.length_map, hb]); all_goals fail_if_success guard_target =ₛ False)
            | (with_reducible refine parEVC_stepG rfl (by with_unfolding_all rfl) fun K hK => ?_; (try simp only [go_sem, Nat.reduceBEq, Nat.reduceBNe, Nat.reduceAdd, Nat.reduceSub, Nat.reduceMul, Nat.reduceLeDiff, Nat.reduceLT, reduceCtorEq, Nat.reduceEqDiff, Int.reduceToNat, Int.reduceLE, Int.reduceLT, Int.reduceEq, List.length_map, hb]); all_goals fail_if_success guard_target =ₛ False)
            | with_reducible refine parEVC_nil ?_
            | (with_reducible refine AWP.cond (by with_unfolding_all rfl) (fun h => ?_) (fun h => ?_); all_goals (try simp only [Bool.not_eq_true', Bool.not_eq_false'] at h); (all_goals try first | (exact absurd h Bool.false_ne_true) | (exact absurd h.symm Bool.false_ne_true) | (exact absurd h (by decide))))
            | with_reducible refine AWP.skip ?_
            | with_reducible refine AWP.ret ?_
            | with_reducible refine AWP.block ?_
            | with_reducible refine AWP.exit ?_
            | (with_reducible refine ⟨fun h => ?_, fun h => ?_⟩ <;> (try simp only [Bool.not_eq_true', Bool.not_eq_false'] at h) <;> simp only [h, go_sem, Nat.reduceBEq, Nat.reduceBNe, Nat.reduceAdd, Nat.reduceSub, Nat.reduceMul, Nat.reduceLeDiff, Nat.reduceLT, reduceCtorEq, Nat.reduceEqDiff, Int.reduceToNat, Int.reduceLE, Int.reduceLT, Int.reduceEq, List.length_map, hb])
            | (with_reducible refine ⟨by omega, encR d, hd', ?_⟩)
            | (with_reducible refine AWP.parR mixed (by kernel_rfl) fun K hK => ?_)
            | (simp only [go_sem, Nat.reduceBEq, Nat.reduceBNe, Nat.reduceAdd, Nat.reduceSub, Nat.reduceMul, Nat.reduceLeDiff, Nat.reduceLT, reduceCtorEq, Nat.reduceEqDiff, Int.reduceToNat, Int.reduceLE, Int.reduceLT, Int.reduceEq, List.length_map, hb])
            | (clear hK K))
          all_goals (rw [wrap_succ hlm (by omega)]; refine ⟨(m + 1, downStep dn d), by simp only; omega, ⟨by simp only; omega, hq⟩, Gh.to [] ?_ (by repeat (first | exact trivial | refine ⟨rfl, ?_⟩)) rfl rfl rfl⟩)
          all_goals (simp only [downStep, *, cond_true, cond_false]; repeat (first | exact trivial | refine ⟨rfl, ?_⟩))
        · obtain ⟨hb, hdrop⟩ := at_ge hlm
          rw [hdrop, List.foldl_nil] at hq
          rw [List.drop_zero] at hp
          have hup : upF l = up := hp.symm
          have hdn : dn = l.foldl downStep 0 := hq.symm
          subst hdn
          subst hp
          repeat' (first
            | (with_reducible refine seqVC_stepN rfl fun K hK => ?_; (try simp only [go_sem, Nat.reduceBEq, Nat.reduceBNe, Nat.reduceAdd, Nat.reduceSub, Nat.reduceMul, Nat.reduceLeDiff, Nat.reduceLT, reduceCtorEq, Nat.reduceEqDiff, Int.reduceToNat, Int.reduceLE, Int.reduceLT, Int.reduceEq, List.length_map, hb]); all_goals fail_if_success guard_target =ₛ False)
            | (with_reducible refine seqVC_stepG rfl (by with_unfolding_all rfl) fun K hK => ?_; (try simp only [go_sem, Nat.reduceBEq, Nat.reduceBNe, Nat.reduceAdd, Nat.reduceSub, Nat.reduceMul, Nat.reduceLeDiff, Nat.reduceLT, reduceCtorEq, Nat.reduceEqDiff, Int.reduceToNat, Int.reduceLE, Int.reduceLT, Int.reduceEq, List.length_map, hb]); all_goals fail_if_success guard_target =ₛ False)
            | with_reducible refine seqVC_nil ?_
            | (with_reducible refine hK _ _ ?_; clear hK K)
            | (with_reducible refine hK _ ?_; clear hK K)
            | with_reducible refine AWP.seq fun K hK => ?_
            | (with_reducible refine AWP.seqR (by kernel_rfl) fun K hK => ?_)
            | (with_reducible refine parVC_stepN rfl fun K hK => ?_; (try simp only [go_sem, Nat.reduceBEq, Nat.reduceBNe, Nat.reduceAdd, Nat.reduceSub, Nat.reduceMul, Nat.reduceLeDiff, Nat.reduceLT, reduceCtorEq, Nat.reduceEqDiff, Int.reduceToNat, Int.reduceLE, Int.reduceLT, Int.reduceEq, List.length_map, hb]); all_goals fail_if_success guard_target =ₛ False)
            | (with_reducible refine parVC_stepG rfl (by with_unfolding_all rfl) fun K hK => ?_; (try simp only [go_sem, Nat.reduceBEq, Nat.reduceBNe, Nat.reduceAdd, Nat.reduceSub, Nat.reduceMul, Nat.reduceLeDiff, Nat.reduceLT, reduceCtorEq, Nat.reduceEqDiff, Int.reduceToNat, Int.reduceLE, Int.reduceLT, Int.reduceEq, List.length_map, hb]); all_goals fail_if_success guard_target =ₛ False)
            | with_reducible refine parVC_nil ?_
            | (with_reducible refine parEVC_stepN rfl fun K hK => ?_; (try simp only [go_sem, Nat.reduceBEq, Nat.reduceBNe, Nat.reduceAdd, Nat.reduceSub, Nat.reduceMul, Nat.reduceLeDiff, Nat.reduceLT, reduceCtorEq, Nat.reduceEqDiff, Int.reduceToNat, Int.reduceLE, Int.reduceLT, Int.reduceEq, List.length_map, hb]); all_goals fail_if_success guard_target =ₛ False)
            | (with_reducible refine parEVC_stepG rfl (by with_unfolding_all rfl) fun K hK => ?_; (try simp only [go_sem, Nat.reduceBEq, Nat.reduceBNe, Nat.reduceAdd, Nat.reduceSub, Nat.reduceMul, Nat.reduceLeDiff, Nat.reduceLT, reduceCtorEq, Nat.reduceEqDiff, Int.reduceToNat, Int.reduceLE, Int.reduceLT, Int.reduceEq, List.length_map, hb]); all_goals fail_if_success guard_target =ₛ False)
            | with_reducible refine parEVC_nil ?_
            | (with_reducible refine AWP.cond (by with_unfolding_all rfl) (fun h => ?_) (fun h => ?_); all_goals (try simp only [Bool.not_eq_true', Bool.not_eq_false'] at h); (all_goals try first | (exact absurd h Bool.false_ne_true) | (exact absurd h.symm Bool.false_ne_true) | (exact absurd h (by decide))))
            | with_reducible refine AWP.skip ?_
            | with_reducible refine AWP.ret ?_
            | with_reducible refine AWP.block ?_
            | with_reducible refine AWP.exit ?_
            | (with_reducible refine ⟨fun h => ?_, fun h => ?_⟩ <;> (try simp only [Bool.not_eq_true', Bool.not_eq_false'] at h) <;> simp only [h, go_sem, Nat.reduceBEq, Nat.reduceBNe, Nat.reduceAdd, Nat.reduceSub, Nat.reduceMul, Nat.reduceLeDiff, Nat.reduceLT, reduceCtorEq, Nat.reduceEqDiff, Int.reduceToNat, Int.reduceLE, Int.reduceLT, Int.reduceEq, List.length_map, hb])
            | (with_reducible refine AWP.parR mixed (by kernel_rfl) fun K hK => ?_)
            | (simp only [go_sem, Nat.reduceBEq, Nat.reduceBNe, Nat.reduceAdd, Nat.reduceSub, Nat.reduceMul, Nat.reduceLeDiff, Nat.reduceLT, reduceCtorEq, Nat.reduceEqDiff, Int.reduceToNat, Int.reduceLE, Int.reduceLT, Int.reduceEq, List.length_map, hb])
            | (clear hK K))
          all_goals refine fin0 ?_
          all_goals simp only [leastR, hne, hz, cond_true, cond_false, *, Bool.true_or, Bool.false_or, Bool.or_true, Bool.or_false, Bool.true_and, Bool.false_and, Bool.and_true, Bool.and_false]
      | succ j =>
        have hge : decide ((0 : Int) ≤ ((j + 1 : Nat) : Int) - 1) = true := by simp
        have hj : ((j + 1 : Nat) : Int) - 1 = (j : Int) := by omega
        obtain ⟨d, hd, hd', _, hdrop⟩ := at_lt (enc := encR) (show j < l.length by omega)
        have hw : IntKind.i64.wrap ((j : Int) - 1) = (j : Int) - 1 := by rw [w64 (by omega)]
        simp only [hj] at *
        cases hpos : decide (0 < d.lo)
        ·
          repeat' (first
            | (with_reducible refine seqVC_stepN rfl fun K hK => ?_; (try simp only [go_sem, Nat.reduceBEq, Nat.reduceBNe, Nat.reduceAdd, Nat.reduceSub, Nat.reduceMul, Nat.reduceLeDiff, Nat.reduceLT, reduceCtorEq, Nat.reduceEqDiff, Int.reduceToNat, Int.reduceLE, Int.reduceLT, Int.reduceEq, List.length_map, hge, hw, hpos]); all_goals fail_if_success guard_target =ₛ False)
            | (with_reducible refine seqVC_stepG rfl (by with_unfolding_all rfl) fun K hK => ?_; (try simp only [go_sem, Nat.reduceBEq, Nat.reduceBNe, Nat.reduceAdd, Nat.reduceSub, Nat.reduceMul, Nat.reduceLeDiff, Nat.reduceLT, reduceCtorEq, Nat.reduceEqDiff, Int.reduceToNat, Int.reduceLE, Int.reduceLT, Int.reduceEq, List.length_map, hge, hw, hpos]); all_goals fail_if_success guard_target =ₛ False)
            | with_reducible refine seqVC_nil ?_
            | (with_reducible refine hK _ _ ?_; clear hK K)
            | (with_reducible refine hK _ ?_; clear hK K)
            | with_reducible refine AWP.seq fun K hK => ?_
            | (with_reducible refine AWP.seqR (by kernel_rfl) fun K hK => ?_)
            | (with_reducible refine parVC_stepN rfl fun K hK => ?_; (try simp only [go_sem, Nat.reduceBEq, Nat.reduceBNe, Nat.reduceAdd, Nat.reduceSub, Nat.reduceMul, Nat.reduceLeDiff, Nat.reduceLT, reduceCtorEq, Nat.reduceEqDiff, Int.reduceToNat, Int.reduceLE, Int.reduceLT, Int.reduceEq, List.length_map, hge, hw, hpos]); all_goals fail_if_success guard_target =ₛ False)
            | (with_reducible refine parVC_stepG rfl (by with_unfolding_all rfl) fun K hK => ?_; (try simp only [go_sem, Nat.reduceBEq, Nat.reduceBNe, Nat.reduceAdd, Nat.reduceSub, Nat.reduceMul, Nat.reduceLeDiff, Nat.reduceLT, reduceCtorEq, Nat.reduceEqDiff, Int.reduceToNat, Int.reduceLE, Int.reduceLT, Int.reduceEq, List.length_map, hge, hw, hpos]); all_goals fail_if_success guard_target =ₛ False)
            | with_reducible refine parVC_nil ?_
            | (with_reducible refine parEVC_stepN rfl fun K hK => ?_; (try simp only [go_sem, Nat.reduceBEq, Nat.reduceBNe, Nat.reduceAdd, Nat.reduceSub, Nat.reduceMul, Nat.reduceLeDiff, Nat.reduceLT, reduceCtorEq, Nat.reduceEqDiff, Int.reduceToNat, Int.reduceLE, Int.reduceLT, Int.reduceEq, List.length_map, hge, hw, hpos]); all_goals fail_if_success guard_target =ₛ False)
            | (with_reducible refine parEVC_stepG rfl (by with_unfolding_all rfl) fun K hK => ?_; (try simp only [go_sem, Nat.reduceBEq, Nat.reduceBNe, Nat.reduceAdd, Nat.reduceSub, Nat.reduceMul, Nat.reduceLeDiff, Nat.reduceLT, reduceCtorEq, Nat.reduceEqDiff, Int.reduceToNat, Int.reduceLE, Int.reduceLT, Int.reduceEq, List.length_map, hge, hw, hpos]); all_goals fail_if_success guard_target =ₛ False)
            | with_reducible refine parEVC_nil ?_
            | (with_reducible refine AWP.cond (by with_unfolding_all rfl) (fun h => ?_) (fun h => ?_); all_goals (try simp only [Bool.not_eq_true', Bool.not_eq_false'] at h); (all_goals try first | (exact absurd h Bool.false_ne_true) | (exact absurd h.symm Bool.false_ne_true) | (exact absurd h (by decide))))
            | with_reducible refine AWP.skip ?_
            | with_reducible refine AWP.ret ?_
            | with_reducible refine AWP.block ?_
            | with_reducible refine AWP.exit ?_
            | (with_reducible refine ⟨fun h => ?_, fun h => ?_⟩ <;> (try simp only [Bool.not_eq_true', Bool.not_eq_false'] at h) <;> simp only [h, go_sem, Nat.reduceBEq, Nat.reduceBNe, Nat.reduceAdd, Nat.reduceSub, Nat.reduceMul, Nat.reduceLeDiff, Nat.reduceLT, reduceCtorEq, Nat.reduceEqDiff, Int.reduceToNat, Int.reduceLE, Int.reduceLT, Int.reduceEq, List.length_map, hge, hw, hpos])
            | (with_reducible refine ⟨by omega, encR d, hd', ?_⟩)
            | (with_reducible refine AWP.parR mixed (by kernel_rfl) fun K hK => ?_)
            | (simp only [go_sem, Nat.reduceBEq, Nat.reduceBNe, Nat.reduceAdd, Nat.reduceSub, Nat.reduceMul, Nat.reduceLeDiff, Nat.reduceLT, reduceCtorEq, Nat.reduceEqDiff, Int.reduceToNat, Int.reduceLE, Int.reduceLT, Int.reduceEq, List.length_map, hge, hw, hpos])
            | (clear hK K))
          refine ⟨(j, up), by simp only; omega, ⟨by simp only; omega, ?_⟩, Gh.to [] (by repeat (first | exact trivial | refine ⟨rfl, ?_⟩)) (by repeat (first | exact trivial | refine ⟨rfl, ?_⟩)) rfl rfl rfl⟩
          simp only [hdrop, upF, hpos, cond_false]; exact hp
        ·
          repeat' (first
            | (with_reducible refine seqVC_stepN rfl fun K hK => ?_; (try simp only [go_sem, Nat.reduceBEq, Nat.reduceBNe, Nat.reduceAdd, Nat.reduceSub, Nat.reduceMul, Nat.reduceLeDiff, Nat.reduceLT, reduceCtorEq, Nat.reduceEqDiff, Int.reduceToNat, Int.reduceLE, Int.reduceLT, Int.reduceEq, List.length_map, hge, hw, hpos]); all_goals fail_if_success guard_target =ₛ False)
            | (with_reducible refine seqVC_stepG rfl (by with_unfolding_all rfl) fun K hK => ?_; (try simp only [go_sem, Nat.reduceBEq, Nat.reduceBNe, Nat.reduceAdd, Nat.reduceSub, Nat.reduceMul, Nat.reduceLeDiff, Nat.reduceLT, reduceCtorEq, Nat.reduceEqDiff, Int.reduceToNat, Int.reduceLE, Int.reduceLT, Int.reduceEq, List.length_map, hge, hw, hpos]); all_goals fail_if_success guard_target =ₛ False)
            | with_reducible refine seqVC_nil ?_
            | (with_reducible refine hK _ _ ?_; clear hK K)
            | (with_reducible refine hK _ ?_; clear hK K)
            | with_reducible refine AWP.seq fun K hK => ?_
            | (with_reducible refine AWP.seqR (by kernel_rfl) fun K hK => ?_)
            | (with_reducible refine parVC_stepN rfl fun K hK => ?_; (try simp only [go_sem, Nat.reduceBEq, Nat.reduceBNe, Nat.reduceAdd, Nat.reduceSub, Nat.reduceMul, Nat.reduceLeDiff, Nat.reduceLT, reduceCtorEq, Nat.reduceEqDiff, Int.reduceToNat, Int.reduceLE, Int.reduceLT, Int.reduceEq, List.length_map, hge, hw, hpos]); all_goals fail_if_success guard_target =ₛ False)
            | (with_reducible refine parVC_stepG rfl (by with_unfolding_all rfl) fun K hK => ?_; (try simp only [go_sem, Nat.reduceBEq, Nat.reduceBNe, Nat.reduceAdd, Nat.reduceSub, Nat.reduceMul, Nat.reduceLeDiff, Nat.reduceLT, reduceCtorEq, Nat.reduceEqDiff, Int.reduceToNat, Int.reduceLE, Int.reduceLT, Int.reduceEq, List.length_map, hge, hw, hpos]); all_goals fail_if_success guard_target =ₛ False)
            | with_reducible refine parVC_nil ?_
            | (with_reducible refine parEVC_stepN rfl fun K hK => ?_; (try simp only [go_sem, Nat.reduceBEq, Nat.reduceBNe, Nat.reduceAdd, Nat.reduceSub, Nat.reduceMul, Nat.reduceLeDiff, Nat.reduceLT, reduceCtorEq, Nat.reduceEqDiff, Int.reduceToNat, Int.reduceLE, Int.reduceLT, Int.reduceEq, List.length_map, hge, hw, hpos]); all_goals fail_if_success guard_target =ₛ False)
            | (with_reducible refine parEVC_stepG rfl (by with_unfolding_all rfl) fun K hK => ?_; (try simp only [go_sem, Nat.reduceBEq, Nat.reduceBNe, Nat.reduceAdd, Nat.reduceSub, Nat.reduceMul, Nat.reduceLeDiff, Nat.reduceLT, reduceCtorEq, Nat.reduceEqDiff, Int.reduceToNat, Int.reduceLE, Int.reduceLT, Int.reduceEq, List.length_map, hge, hw, hpos]); all_goals fail_if_success guard_target =ₛ False)
            | with_reducible refine parEVC_nil ?_
            | (with_reducible refine AWP.cond (by with_unfolding_all rfl) (fun h => ?_) (fun h => ?_); all_goals (try simp only [Bool.not_eq_true', Bool.not_eq_false'] at h); (all_goals try first | (exact absurd h Bool.false_ne_true) | (exact absurd h.symm Bool.false_ne_true) | (exact absurd h (by decide))))
            | with_reducible refine AWP.skip ?_
            | with_reducible refine AWP.ret ?_
            | with_reducible refine AWP.block ?_
            | with_reducible refine AWP.exit ?_
            | (with_reducible refine ⟨fun h => ?_, fun h => ?_⟩ <;> (try simp only [Bool.not_eq_true', Bool.not_eq_false'] at h) <;> simp only [h, go_sem, Nat.reduceBEq, Nat.reduceBNe, Nat.reduceAdd, Nat.reduceSub, Nat.reduceMul, Nat.reduceLeDiff, Nat.reduceLT, reduceCtorEq, Nat.reduceEqDiff, Int.reduceToNat, Int.reduceLE, Int.reduceLT, Int.reduceEq, List.length_map, hge, hw, hpos])
            | (with_reducible refine ⟨by omega, encR d, hd', ?_⟩)
            | (with_reducible refine AWP.parR mixed (by kernel_rfl) fun K hK => ?_)
            | (simp only [go_sem, Nat.reduceBEq, Nat.reduceBNe, Nat.reduceAdd, Nat.reduceSub, Nat.reduceMul, Nat.reduceLeDiff, Nat.reduceLT, reduceCtorEq, Nat.reduceEqDiff, Int.reduceToNat, Int.reduceLE, Int.reduceLT, Int.reduceEq, List.length_map, hge, hw, hpos])
            | (clear hK K))
          refine ⟨(j, d.lo), by simp only; omega, ⟨by simp only; omega, ?_⟩, Gh.to [] (by repeat (first | exact trivial | refine ⟨rfl, ?_⟩)) (by repeat (first | exact trivial | refine ⟨rfl, ?_⟩)) rfl rfl rfl⟩
          simp only [hdrop, upF, hpos, cond_true]
    · rw [hz] at hi
      repeat' (first
        | (with_reducible refine seqVC_stepN rfl fun K hK => ?_; (try simp only [go_sem, Nat.reduceBEq, Nat.reduceBNe, Nat.reduceAdd, Nat.reduceSub, Nat.reduceMul, Nat.reduceLeDiff, Nat.reduceLT, reduceCtorEq, Nat.reduceEqDiff, Int.reduceToNat, Int.reduceLE, Int.reduceLT, Int.reduceEq, List.length_map, h0]); all_goals fail_if_success guard_target =ₛ False)
        | (with_reducible refine seqVC_stepG rfl (by with_unfolding_all rfl) fun K hK => ?_; (try simp only [go_sem, Nat.reduceBEq, Nat.reduceBNe, Nat.reduceAdd, Nat.reduceSub, Nat.reduceMul, Nat.reduceLeDiff, Nat.reduceLT, reduceCtorEq, Nat.reduceEqDiff, Int.reduceToNat, Int.reduceLE, Int.reduceLT, Int.reduceEq, List.length_map, h0]); all_goals fail_if_success guard_target =ₛ False)
        | with_reducible refine seqVC_nil ?_
        | (with_reducible refine hK _ _ ?_; clear hK K)
        | (with_reducible refine hK _ ?_; clear hK K)
        | with_reducible refine AWP.seq fun K hK => ?_
        | (with_reducible refine AWP.seqR (by kernel_rfl) fun K hK => ?_)
        | (with_reducible refine parVC_stepN rfl fun K hK => ?_; (try simp only [go_sem, Nat.reduceBEq, Nat.reduceBNe, Nat.reduceAdd, Nat.reduceSub, Nat.reduceMul, Nat.reduceLeDiff, Nat.reduceLT, reduceCtorEq, Nat.reduceEqDiff, Int.reduceToNat, Int.reduceLE, Int.reduceLT, Int.reduceEq, List.length_map, h0]); all_goals fail_if_success guard_target =ₛ False)
        | (with_reducible refine parVC_stepG rfl (by with_unfolding_all rfl) fun K hK => ?_; (try simp only [go_sem, Nat.reduceBEq, Nat.reduceBNe, Nat.reduceAdd, Nat.reduceSub, Nat.reduceMul, Nat.reduceLeDiff, Nat.reduceLT, reduceCtorEq, Nat.reduceEqDiff, Int.reduceToNat, Int.reduceLE, Int.reduceLT, Int.reduceEq, List.length_map, h0]); all_goals fail_if_success guard_target =ₛ False)
        | with_reducible refine parVC_nil ?_
        | (with_reducible refine parEVC_stepN rfl fun K hK => ?_; (try simp only [go_sem, Nat.reduceBEq, Nat.reduceBNe, Nat.reduceAdd, Nat.reduceSub, Nat.reduceMul, Nat.reduceLeDiff, Nat.reduceLT, reduceCtorEq, Nat.reduceEqDiff, Int.reduceToNat, Int.reduceLE, Int.reduceLT, Int.reduceEq, List.length_map, h0]); all_goals fail_if_success guard_target =ₛ False)
        | (with_reducible refine parEVC_stepG rfl (by with_unfolding_all rfl) fun K hK => ?_; (try simp only [go_sem, Nat.reduceBEq, Nat.reduceBNe, Nat.reduceAdd, Nat.reduceSub, Nat.reduceMul, Nat.reduceLeDiff, Nat.reduceLT, reduceCtorEq, Nat.reduceEqDiff, Int.reduceToNat, Int.reduceLE, Int.reduceLT, Int.reduceEq, List.length_map, h0]); all_goals fail_if_success guard_target =ₛ False)
        | with_reducible refine parEVC_nil ?_
        | (with_reducible refine AWP.cond (by with_unfolding_all rfl) (fun h => ?_) (fun h => ?_); all_goals (try simp only [Bool.not_eq_true', Bool.not_eq_false'] at h); (all_goals try first | (exact absurd h Bool.false_ne_true) | (exact absurd h.symm Bool.false_ne_true) | (exact absurd h (by decide))))
        | with_reducible refine AWP.skip ?_
        | with_reducible refine AWP.ret ?_
        | with_reducible refine AWP.block ?_
        | with_reducible refine AWP.exit ?_
        | (with_reducible refine ⟨fun h => ?_, fun h => ?_⟩ <;> (try simp only [Bool.not_eq_true', Bool.not_eq_false'] at h) <;> simp only [h, go_sem, Nat.reduceBEq, Nat.reduceBNe, Nat.reduceAdd, Nat.reduceSub, Nat.reduceMul, Nat.reduceLeDiff, Nat.reduceLT, reduceCtorEq, Nat.reduceEqDiff, Int.reduceToNat, Int.reduceLE, Int.reduceLT, Int.reduceEq, List.length_map, h0])
        | (with_reducible refine ⟨_, hnf, ?_⟩; try simp only [go_sem, Nat.reduceBEq, Nat.reduceBNe, Nat.reduceAdd, Nat.reduceSub, Nat.reduceMul, Nat.reduceLeDiff, Nat.reduceLT, reduceCtorEq, Nat.reduceEqDiff, Int.reduceToNat, Int.reduceLE, Int.reduceLT, Int.reduceEq, List.length_map, h0])
        | (with_reducible refine ⟨_, hi, ?_⟩; try simp only [go_sem, Nat.reduceBEq, Nat.reduceBNe, Nat.reduceAdd, Nat.reduceSub, Nat.reduceMul, Nat.reduceLeDiff, Nat.reduceLT, reduceCtorEq, Nat.reduceEqDiff, Int.reduceToNat, Int.reduceLE, Int.reduceLT, Int.reduceEq, List.length_map, h0])
        | (with_reducible refine AWP.parR mixed (by kernel_rfl) fun K hK => ?_)
        | (simp only [go_sem, Nat.reduceBEq, Nat.reduceBNe, Nat.reduceAdd, Nat.reduceSub, Nat.reduceMul, Nat.reduceLeDiff, Nat.reduceLT, reduceCtorEq, Nat.reduceEqDiff, Int.reduceToNat, Int.reduceLE, Int.reduceLT, Int.reduceEq, List.length_map, h0])
        | (clear hK K))
      all_goals (first | exact fun _ h => (by cases h) | refine fin0 ?_)
      all_goals simp only [leastR, hne, hz, cond_true, cond_false]
end Go.Proofs.Ytjpkddhpkohiaaa
