/- A part of the proof: lemmas about the walk of the program and about plain integers and lists. No conditions beyond those that each lemma states. -/
import Derived.Test.YtmpfdejckbceiaaBk7
import Derived.Test.YtmpfdejckbceiaaBk6
import Derived.Test.YtmpfdejckbceiaaBk8
import Derived.Test.YtmpfdejckbceiaaBk4
set_option linter.unusedSimpArgs false
set_option linter.unusedVariables false
set_option maxRecDepth 20000
set_option maxHeartbeats 4000000
namespace Go.Proofs.Ytmpfdejckbceiaa
open Go Go.Sx
open Nat renaming reduceBEq → zA, reduceBNe → zB, reduceAdd → zC, reduceSub → zD, reduceMul → zE, reduceLeDiff → zF, reduceLT → zG, reduceEqDiff → zH
open Int renaming reduceToNat → zI, reduceLE → zJ, reduceLT → zK, reduceEq → zL
theorem node_17 (v : Val) (hk8 : ¬ v.kind = 8) (hk9 : ¬ v.kind = 9) : PC Try.prog 83 [.st (encVal v)] (Bo (nodeB v)) := by
  have hlab : labelsB v.labels = goB Lib.compareBytes isVarB none v.labels := by rw [goB_none]; rfl
  refine PCB.of_body Try.func83 rfl (by decide) Try.ntmps83 Try.results83 rfl rfl rfl ?_ rfl rfl
  repeat' (first
    | (simp only [go_sem, zA, zB, zC, zD, zE, zF, zG, reduceCtorEq, zH, zI, zJ, zK, zL, encVal_eq]; all_goals fail_if_success guard_target =ₛ False)
    | (with_reducible first
      | refine seqVC_stepN rfl fun K hK => ?_
      | refine seqVC_stepG rfl (by with_unfolding_all rfl) fun K hK => ?_
      | refine seqVC_nil ?_
      | (refine hK _ _ _ ?_; clear hK K)
      | (refine hK _ _ ?_; clear hK K)
      | (refine hK _ ?_; clear hK K)
      | refine AWP.seq fun K hK => ?_
      | refine AWP.seqR (by kernel_rfl) fun K hK => ?_
      | refine parVC_stepN rfl fun K hK => ?_
      | refine parVC_stepG rfl (by with_unfolding_all rfl) fun K hK => ?_
      | refine parEVC_stepN rfl fun K hK => ?_
      | refine parEVC_stepG rfl (by with_unfolding_all rfl) fun K hK => ?_
      | refine genVC_stepN rfl fun K hK => ?_
      | refine genVC_stepG rfl (by with_unfolding_all rfl) fun K hK => ?_
      | refine parVC_nil ?_
      | refine parEVC_nil ?_
      | refine genVC_nil ?_
      | (refine AWP.cond (by with_unfolding_all rfl) (fun h => ?_) (fun h => ?_); all_goals (try simp only [Bool.not_eq_true', Bool.not_eq_false'] at h); (all_goals try first | (exact absurd h Bool.false_ne_true) | (exact absurd h.symm Bool.false_ne_true) | (exact absurd h (by decide))))
      | refine AWP.skip ?_
      | refine AWP.ret ?_
      | refine AWP.block ?_
      | refine AWP.exit ?_
      | (refine ⟨fun h => ?_, fun h => ?_⟩ <;> (try simp only [Bool.not_eq_true', Bool.not_eq_false'] at h) <;> try simp only [h])
      | refine AWP.parR mixed (by kernel_rfl) fun K hK => ?_
      | refine ⟨(by kernel_rfl : depB _ _ _ = true), ?_⟩
      | refine Or.inl ?_)
    | (clear hK K))
  refine AWP.lenB 1 6 rfl rfl fun hlen0 => ?_
  (try rw [List.length_map] at hlen0)
  refine AWP.range (S := Unit) (v.labels) encStr (fun k s => (3, I .i64 (k : Nat)) :: []) (fun k s => []) [1] [1] (fun k s => goB Lib.compareBytes isVarB none v.labels = goB Lib.compareBytes isVarB (prevAt v.labels k) (v.labels.drop k)) (()) (by simp only [go_sem, zA, zB, zC, zD, zE, zF, zG, reduceCtorEq, zH, zI, zJ, zK, zL, encVal_eq]; exact Gh.to [] (by repeat (first | exact trivial | refine ⟨rfl, ?_⟩ | refine ⟨by (simp only [go_sem, zA, zB, zC, zD, zE, zF, zG, reduceCtorEq, zH, zI, zJ, zK, zL, List.length_append, List.length_map, List.length_cons, List.length_nil, Nat.zero_add]) <;> rfl, ?_⟩)) (by repeat (first | exact trivial | refine ⟨rfl, ?_⟩ | refine ⟨by (simp only [go_sem, zA, zB, zC, zD, zE, zF, zG, reduceCtorEq, zH, zI, zJ, zK, zL, List.length_append, List.length_map, List.length_cons, List.length_nil, Nat.zero_add]) <;> rfl, ?_⟩)) rfl rfl rfl) ?_ ?_ ?_
  · rfl
  · intro k s x hlt hx hx' hb hok
    simp only [go_sem, zA, zB, zC, zD, zE, zF, zG, reduceCtorEq, zH, zI, zJ, zK, zL]
    rcases Nat.eq_zero_or_eq_succ_pred k with hk0 | hk0
    · rw [goB_zero hk0 hx] at hok
      have hp0 : decide ((0 : Int) < (k : Int)) = false := by rw [hk0]; rfl
      cases hz : isVarB x <;> simp only [hz, Bool.true_and, Bool.false_and] at hok
      ·
        repeat' (first
          | (simp only [go_sem, zA, zB, zC, zD, zE, zF, zG, reduceCtorEq, zH, zI, zJ, zK, zL, encVal_eq, encStr, List.length_map, hb, hz, hp0]; all_goals fail_if_success guard_target =ₛ False)
          | (with_reducible first
            | refine seqVC_stepN rfl fun K hK => ?_
            | refine seqVC_stepG rfl (by with_unfolding_all rfl) fun K hK => ?_
            | refine seqVC_nil ?_
            | (refine hK _ _ _ ?_; clear hK K)
            | (refine hK _ _ ?_; clear hK K)
            | (refine hK _ ?_; clear hK K)
            | refine AWP.seq fun K hK => ?_
            | refine AWP.seqR (by kernel_rfl) fun K hK => ?_
            | refine parVC_stepN rfl fun K hK => ?_
            | refine parVC_stepG rfl (by with_unfolding_all rfl) fun K hK => ?_
            | refine parEVC_stepN rfl fun K hK => ?_
            | refine parEVC_stepG rfl (by with_unfolding_all rfl) fun K hK => ?_
            | refine genVC_stepN rfl fun K hK => ?_
            | refine genVC_stepG rfl (by with_unfolding_all rfl) fun K hK => ?_
            | refine parVC_nil ?_
            | refine parEVC_nil ?_
            | refine genVC_nil ?_
            | (refine AWP.cond (by with_unfolding_all rfl) (fun h => ?_) (fun h => ?_); all_goals (try simp only [Bool.not_eq_true', Bool.not_eq_false'] at h); (all_goals try first | (exact absurd h Bool.false_ne_true) | (exact absurd h.symm Bool.false_ne_true) | (exact absurd h (by decide))))
            | refine AWP.skip ?_
            | refine AWP.ret ?_
            | refine AWP.block ?_
            | refine AWP.exit ?_
            | (refine ⟨fun h => ?_, fun h => ?_⟩ <;> (try simp only [Bool.not_eq_true', Bool.not_eq_false'] at h) <;> try simp only [h])
            | refine ⟨_, refIsVariable_c x, ?_⟩
            | refine ⟨by omega, encStr x, hx', ?_⟩
            | refine AWP.parR mixed (by kernel_rfl) fun K hK => ?_
            | refine ⟨(by kernel_rfl : depB _ _ _ = true), ?_⟩
            | refine Or.inl ?_)
          | (clear hK K))
        all_goals (first | exact fun _ h => (by cases h) | (refine fin0 ?_; first | rfl | (simp only [nodeB, hlab, hok, Bool.and_true, Bool.and_false, Bool.true_and, Bool.false_and, Bool.or_true, Bool.or_false, Bool.true_or, Bool.false_or, Bool.not_true, Bool.not_false, cond_true, cond_false, decide_true, decide_false]; done) | (simp only [nodeB, hlab, hok, Bool.and_true, Bool.and_false, Bool.true_and, Bool.false_and, Bool.or_true, Bool.or_false, Bool.true_or, Bool.false_or, Bool.not_true, Bool.not_false, cond_true, cond_false, decide_true, decide_false]; rfl)))
      ·
        repeat' (first
          | (simp only [go_sem, zA, zB, zC, zD, zE, zF, zG, reduceCtorEq, zH, zI, zJ, zK, zL, encVal_eq, encStr, List.length_map, hb, hz, hp0]; all_goals fail_if_success guard_target =ₛ False)
          | (with_reducible first
            | refine seqVC_stepN rfl fun K hK => ?_
            | refine seqVC_stepG rfl (by with_unfolding_all rfl) fun K hK => ?_
            | refine seqVC_nil ?_
            | (refine hK _ _ _ ?_; clear hK K)
            | (refine hK _ _ ?_; clear hK K)
            | (refine hK _ ?_; clear hK K)
            | refine AWP.seq fun K hK => ?_
            | refine AWP.seqR (by kernel_rfl) fun K hK => ?_
            | refine parVC_stepN rfl fun K hK => ?_
            | refine parVC_stepG rfl (by with_unfolding_all rfl) fun K hK => ?_
            | refine parEVC_stepN rfl fun K hK => ?_
            | refine parEVC_stepG rfl (by with_unfolding_all rfl) fun K hK => ?_
            | refine genVC_stepN rfl fun K hK => ?_
            | refine genVC_stepG rfl (by with_unfolding_all rfl) fun K hK => ?_
            | refine parVC_nil ?_
            | refine parEVC_nil ?_
            | refine genVC_nil ?_
            | (refine AWP.cond (by with_unfolding_all rfl) (fun h => ?_) (fun h => ?_); all_goals (try simp only [Bool.not_eq_true', Bool.not_eq_false'] at h); (all_goals try first | (exact absurd h Bool.false_ne_true) | (exact absurd h.symm Bool.false_ne_true) | (exact absurd h (by decide))))
            | refine AWP.skip ?_
            | refine AWP.ret ?_
            | refine AWP.block ?_
            | refine AWP.exit ?_
            | (refine ⟨fun h => ?_, fun h => ?_⟩ <;> (try simp only [Bool.not_eq_true', Bool.not_eq_false'] at h) <;> try simp only [h])
            | refine ⟨_, refIsVariable_c x, ?_⟩
            | refine ⟨by omega, encStr x, hx', ?_⟩
            | refine AWP.parR mixed (by kernel_rfl) fun K hK => ?_
            | refine ⟨(by kernel_rfl : depB _ _ _ = true), ?_⟩
            | refine Or.inl ?_)
          | (clear hK K))
        all_goals (rw [wrap_succ hlt hlen0])
        all_goals (refine ⟨(), ?_, Gh.to [] (by repeat (first | exact trivial | refine ⟨rfl, ?_⟩ | refine ⟨by (simp only [go_sem, zA, zB, zC, zD, zE, zF, zG, reduceCtorEq, zH, zI, zJ, zK, zL, List.length_append, List.length_map, List.length_cons, List.length_nil, Nat.zero_add]) <;> rfl, ?_⟩)) (by repeat (first | exact trivial | refine ⟨rfl, ?_⟩ | refine ⟨by (simp only [go_sem, zA, zB, zC, zD, zE, zF, zG, reduceCtorEq, zH, zI, zJ, zK, zL, List.length_append, List.length_map, List.length_cons, List.length_nil, Nat.zero_add]) <;> rfl, ?_⟩)) rfl rfl rfl⟩)
        all_goals exact hok
    · obtain ⟨j, rfl⟩ : ∃ j, k = j + 1 := ⟨_, hk0⟩
      obtain ⟨y, hy, hy', _, _⟩ := at_lt (enc := encStr) (show j < v.labels.length by omega)
      rw [goB_succ hy hx] at hok
      have hw : IntKind.i64.wrap (((j + 1 : Nat) : Int) - 1) = (j : Int) := by rw [w64 (by omega)]; omega
      have hp0 : decide ((0 : Int) < ((j + 1 : Nat) : Int)) = true := by simp only [decide_eq_true_eq]; omega
      cases hz : isVarB x <;> cases hc : decide (Lib.compareBytes y x < 0) <;> simp only [hz, hc, Bool.true_and, Bool.false_and] at hok
      all_goals
        have hcg : decide (0 ≤ Lib.compareBytes y x) = !decide (Lib.compareBytes y x < 0) := by rw [← Bool.coe_iff_coe]; simp
        rw [hc] at hcg
      all_goals (have hl := less_dec y x; rw [hc] at hl)
      all_goals
        repeat' (first
          | (simp only [go_sem, zA, zB, zC, zD, zE, zF, zG, reduceCtorEq, zH, zI, zJ, zK, zL, encVal_eq, encStr, List.length_map, hb, hz, hp0, hw, hcg, hl]; all_goals fail_if_success guard_target =ₛ False)
          | (with_reducible first
            | refine seqVC_stepN rfl fun K hK => ?_
            | refine seqVC_stepG rfl (by with_unfolding_all rfl) fun K hK => ?_
            | refine seqVC_nil ?_
            | (refine hK _ _ _ ?_; clear hK K)
            | (refine hK _ _ ?_; clear hK K)
            | (refine hK _ ?_; clear hK K)
            | refine AWP.seq fun K hK => ?_
            | refine AWP.seqR (by kernel_rfl) fun K hK => ?_
            | refine parVC_stepN rfl fun K hK => ?_
            | refine parVC_stepG rfl (by with_unfolding_all rfl) fun K hK => ?_
            | refine parEVC_stepN rfl fun K hK => ?_
            | refine parEVC_stepG rfl (by with_unfolding_all rfl) fun K hK => ?_
            | refine genVC_stepN rfl fun K hK => ?_
            | refine genVC_stepG rfl (by with_unfolding_all rfl) fun K hK => ?_
            | refine parVC_nil ?_
            | refine parEVC_nil ?_
            | refine genVC_nil ?_
            | (refine AWP.cond (by with_unfolding_all rfl) (fun h => ?_) (fun h => ?_); all_goals (try simp only [Bool.not_eq_true', Bool.not_eq_false'] at h); (all_goals try first | (exact absurd h Bool.false_ne_true) | (exact absurd h.symm Bool.false_ne_true) | (exact absurd h (by decide))))
            | refine AWP.skip ?_
            | refine AWP.ret ?_
            | refine AWP.block ?_
            | refine AWP.exit ?_
            | (refine ⟨fun h => ?_, fun h => ?_⟩ <;> (try simp only [Bool.not_eq_true', Bool.not_eq_false'] at h) <;> try simp only [h])
            | refine ⟨_, refIsVariable_c x, ?_⟩
            | refine ⟨by omega, encStr x, hx', ?_⟩
            | refine ⟨by omega, encStr y, hy', ?_⟩
            | refine AWP.parR mixed (by kernel_rfl) fun K hK => ?_
            | refine ⟨(by kernel_rfl : depB _ _ _ = true), ?_⟩
            | refine Or.inl ?_)
          | (clear hK K))
      any_goals (first | exact fun _ h => (by cases h) | (refine fin0 ?_; first | (simp only [nodeB, hlab, hok, Bool.and_true, Bool.and_false, Bool.true_and, Bool.false_and, Bool.or_true, Bool.or_false, Bool.true_or, Bool.false_or, Bool.not_true, Bool.not_false, cond_true, cond_false, decide_true, decide_false]; done) | (simp only [nodeB, hlab, hok, Bool.and_true, Bool.and_false, Bool.true_and, Bool.false_and, Bool.or_true, Bool.or_false, Bool.true_or, Bool.false_or, Bool.not_true, Bool.not_false, cond_true, cond_false, decide_true, decide_false]; rfl)))
      all_goals (rw [wrap_succ hlt hlen0])
      all_goals (refine ⟨(), ?_, Gh.to [] (by repeat (first | exact trivial | refine ⟨rfl, ?_⟩ | refine ⟨by (simp only [go_sem, zA, zB, zC, zD, zE, zF, zG, reduceCtorEq, zH, zI, zJ, zK, zL, List.length_append, List.length_map, List.length_cons, List.length_nil, Nat.zero_add]) <;> rfl, ?_⟩)) (by repeat (first | exact trivial | refine ⟨rfl, ?_⟩ | refine ⟨by (simp only [go_sem, zA, zB, zC, zD, zE, zF, zG, reduceCtorEq, zH, zI, zJ, zK, zL, List.length_append, List.length_map, List.length_cons, List.length_nil, Nat.zero_add]) <;> rfl, ?_⟩)) rfl rfl rfl⟩)
      all_goals exact hok
  intro s0 hb0 hok0
  simp only [go_sem, zA, zB, zC, zD, zE, zF, zG, reduceCtorEq, zH, zI, zJ, zK, zL]
  rw [goB_end] at hok0
  rw [hok0] at hlab
  rcases kinds v.kind with hk | hk | hk | hk | hk | hk | hk | hk | hk | ⟨h1, h2, h3, h4, h5, h6, h7, h8, h9, hk⟩
  iterate 6
    ·
      repeat' (first
        | (simp only [go_sem, zA, zB, zC, zD, zE, zF, zG, reduceCtorEq, zH, zI, zJ, zK, zL, encVal_eq, hk, hb0, List.length_map]; all_goals fail_if_success guard_target =ₛ False)
        | (with_reducible first
          | refine seqVC_stepN rfl fun K hK => ?_
          | refine seqVC_stepG rfl (by with_unfolding_all rfl) fun K hK => ?_
          | refine seqVC_nil ?_
          | (refine hK _ _ _ ?_; clear hK K)
          | (refine hK _ _ ?_; clear hK K)
          | (refine hK _ ?_; clear hK K)
          | refine AWP.seq fun K hK => ?_
          | refine AWP.seqR (by kernel_rfl) fun K hK => ?_
          | refine parVC_stepN rfl fun K hK => ?_
          | refine parVC_stepG rfl (by with_unfolding_all rfl) fun K hK => ?_
          | refine parEVC_stepN rfl fun K hK => ?_
          | refine parEVC_stepG rfl (by with_unfolding_all rfl) fun K hK => ?_
          | refine genVC_stepN rfl fun K hK => ?_
          | refine genVC_stepG rfl (by with_unfolding_all rfl) fun K hK => ?_
          | refine parVC_nil ?_
          | refine parEVC_nil ?_
          | refine genVC_nil ?_
          | (refine AWP.cond (by with_unfolding_all rfl) (fun h => ?_) (fun h => ?_); all_goals (try simp only [Bool.not_eq_true', Bool.not_eq_false'] at h); (all_goals try first | (exact absurd h Bool.false_ne_true) | (exact absurd h.symm Bool.false_ne_true) | (exact absurd h (by decide))))
          | refine AWP.skip ?_
          | refine AWP.ret ?_
          | refine AWP.block ?_
          | refine AWP.exit ?_
          | (refine ⟨fun h => ?_, fun h => ?_⟩ <;> (try simp only [Bool.not_eq_true', Bool.not_eq_false'] at h) <;> try simp only [h])
          | refine ⟨_, isAtom_c _, ?_⟩
          | refine AWP.parR mixed (by kernel_rfl) fun K hK => ?_
          | refine ⟨(by kernel_rfl : depB _ _ _ = true), ?_⟩
          | refine Or.inl ?_)
        | (clear hK K))
      all_goals (first | exact fun _ h => (by cases h) | (refine fin0 ?_; first | rfl | (simp only [nodeB, badFields, bodyB, kNum, kText, kKids, kKeys, kEnts, kKnown, hk, Int.reduceEq, Int.reduceLE, hlab, *, Bool.and_true, Bool.and_false, Bool.true_and, Bool.false_and, Bool.or_true, Bool.or_false, Bool.true_or, Bool.false_or, Bool.not_true, Bool.not_false, cond_true, cond_false, decide_true, decide_false]; done) | (simp only [nodeB, badFields, bodyB, kNum, kText, kKids, kKeys, kEnts, kKnown, hk, Int.reduceEq, Int.reduceLE, hlab, *, Bool.and_true, Bool.and_false, Bool.true_and, Bool.false_and, Bool.or_true, Bool.or_false, Bool.true_or, Bool.false_or, Bool.not_true, Bool.not_false, cond_true, cond_false, decide_true, decide_false]; rfl)))
  · cases h2 : decide ((v.kids.length : Int) = 2) with
    | true =>
      have hl : v.kids.length = 2 := by have := of_decide_eq_true h2; omega
      obtain ⟨y, hy, hy', _, _⟩ := at_lt (enc := encVal) (show 1 < v.kids.length by omega)
      have hkk : kidKind v = y.kind := by unfold kidKind; rw [hy]; rfl
      cases h5 : decide (y.kind = 5) <;> cases h7 : decide (y.kind = 7)
      all_goals
        repeat' (first
          | (simp only [go_sem, zA, zB, zC, zD, zE, zF, zG, reduceCtorEq, zH, zI, zJ, zK, zL, encVal_eq, hk, hb0, h2, h5, h7, List.length_map]; all_goals fail_if_success guard_target =ₛ False)
          | (with_reducible first
            | refine seqVC_stepN rfl fun K hK => ?_
            | refine seqVC_stepG rfl (by with_unfolding_all rfl) fun K hK => ?_
            | refine seqVC_nil ?_
            | (refine hK _ _ _ ?_; clear hK K)
            | (refine hK _ _ ?_; clear hK K)
            | (refine hK _ ?_; clear hK K)
            | refine AWP.seq fun K hK => ?_
            | refine AWP.seqR (by kernel_rfl) fun K hK => ?_
            | refine parVC_stepN rfl fun K hK => ?_
            | refine parVC_stepG rfl (by with_unfolding_all rfl) fun K hK => ?_
            | refine parEVC_stepN rfl fun K hK => ?_
            | refine parEVC_stepG rfl (by with_unfolding_all rfl) fun K hK => ?_
            | refine genVC_stepN rfl fun K hK => ?_
            | refine genVC_stepG rfl (by with_unfolding_all rfl) fun K hK => ?_
            | refine parVC_nil ?_
            | refine parEVC_nil ?_
            | refine genVC_nil ?_
            | (refine AWP.cond (by with_unfolding_all rfl) (fun h => ?_) (fun h => ?_); all_goals (try simp only [Bool.not_eq_true', Bool.not_eq_false'] at h); (all_goals try first | (exact absurd h Bool.false_ne_true) | (exact absurd h.symm Bool.false_ne_true) | (exact absurd h (by decide))))
            | refine AWP.skip ?_
            | refine AWP.ret ?_
            | refine AWP.block ?_
            | refine AWP.exit ?_
            | (refine ⟨fun h => ?_, fun h => ?_⟩ <;> (try simp only [Bool.not_eq_true', Bool.not_eq_false'] at h) <;> try simp only [h])
            | refine ⟨encVal y, hy', ?_⟩
            | refine AWP.parR mixed (by kernel_rfl) fun K hK => ?_
            | refine ⟨(by kernel_rfl : depB _ _ _ = true), ?_⟩
            | refine Or.inl ?_)
          | (clear hK K))
        all_goals (first | exact fun _ h => (by cases h) | (refine fin0 ?_; first | rfl | (simp only [nodeB, badFields, bodyB, kNum, kText, kKids, kKeys, kEnts, kKnown, hk, Int.reduceEq, Int.reduceLE, hlab, *, hkk, Bool.and_true, Bool.and_false, Bool.true_and, Bool.false_and, Bool.or_true, Bool.or_false, Bool.true_or, Bool.false_or, Bool.not_true, Bool.not_false, cond_true, cond_false, decide_true, decide_false]; done) | (simp only [nodeB, badFields, bodyB, kNum, kText, kKids, kKeys, kEnts, kKnown, hk, Int.reduceEq, Int.reduceLE, hlab, *, hkk, Bool.and_true, Bool.and_false, Bool.true_and, Bool.false_and, Bool.or_true, Bool.or_false, Bool.true_or, Bool.false_or, Bool.not_true, Bool.not_false, cond_true, cond_false, decide_true, decide_false]; rfl)))
    | false =>
      repeat' (first
        | (simp only [go_sem, zA, zB, zC, zD, zE, zF, zG, reduceCtorEq, zH, zI, zJ, zK, zL, encVal_eq, hk, hb0, h2, List.length_map]; all_goals fail_if_success guard_target =ₛ False)
        | (with_reducible first
          | refine seqVC_stepN rfl fun K hK => ?_
          | refine seqVC_stepG rfl (by with_unfolding_all rfl) fun K hK => ?_
          | refine seqVC_nil ?_
          | (refine hK _ _ _ ?_; clear hK K)
          | (refine hK _ _ ?_; clear hK K)
          | (refine hK _ ?_; clear hK K)
          | refine AWP.seq fun K hK => ?_
          | refine AWP.seqR (by kernel_rfl) fun K hK => ?_
          | refine parVC_stepN rfl fun K hK => ?_
          | refine parVC_stepG rfl (by with_unfolding_all rfl) fun K hK => ?_
          | refine parEVC_stepN rfl fun K hK => ?_
          | refine parEVC_stepG rfl (by with_unfolding_all rfl) fun K hK => ?_
          | refine genVC_stepN rfl fun K hK => ?_
          | refine genVC_stepG rfl (by with_unfolding_all rfl) fun K hK => ?_
          | refine parVC_nil ?_
          | refine parEVC_nil ?_
          | refine genVC_nil ?_
          | (refine AWP.cond (by with_unfolding_all rfl) (fun h => ?_) (fun h => ?_); all_goals (try simp only [Bool.not_eq_true', Bool.not_eq_false'] at h); (all_goals try first | (exact absurd h Bool.false_ne_true) | (exact absurd h.symm Bool.false_ne_true) | (exact absurd h (by decide))))
          | refine AWP.skip ?_
          | refine AWP.ret ?_
          | refine AWP.block ?_
          | refine AWP.exit ?_
          | (refine ⟨fun h => ?_, fun h => ?_⟩ <;> (try simp only [Bool.not_eq_true', Bool.not_eq_false'] at h) <;> try simp only [h])
          | refine AWP.parR mixed (by kernel_rfl) fun K hK => ?_
          | refine ⟨(by kernel_rfl : depB _ _ _ = true), ?_⟩
          | refine Or.inl ?_)
        | (clear hK K))
      all_goals (first | exact fun _ h => (by cases h) | (refine fin0 ?_; first | rfl | (simp only [nodeB, badFields, bodyB, kNum, kText, kKids, kKeys, kEnts, kKnown, hk, Int.reduceEq, Int.reduceLE, hlab, *, Bool.and_true, Bool.and_false, Bool.true_and, Bool.false_and, Bool.or_true, Bool.or_false, Bool.true_or, Bool.false_or, Bool.not_true, Bool.not_false, cond_true, cond_false, decide_true, decide_false]; done) | (simp only [nodeB, badFields, bodyB, kNum, kText, kKids, kKeys, kEnts, kKnown, hk, Int.reduceEq, Int.reduceLE, hlab, *, Bool.and_true, Bool.and_false, Bool.true_and, Bool.false_and, Bool.or_true, Bool.or_false, Bool.true_or, Bool.false_or, Bool.not_true, Bool.not_false, cond_true, cond_false, decide_true, decide_false]; rfl)))
  · exact absurd hk hk8
  · exact absurd hk hk9
  ·
    repeat' (first
      | (simp only [go_sem, zA, zB, zC, zD, zE, zF, zG, reduceCtorEq, zH, zI, zJ, zK, zL, encVal_eq, h1, h2, h3, h4, h5, h6, h7, h8, h9, hb0, List.length_map]; all_goals fail_if_success guard_target =ₛ False)
      | (with_reducible first
        | refine seqVC_stepN rfl fun K hK => ?_
        | refine seqVC_stepG rfl (by with_unfolding_all rfl) fun K hK => ?_
        | refine seqVC_nil ?_
        | (refine hK _ _ _ ?_; clear hK K)
        | (refine hK _ _ ?_; clear hK K)
        | (refine hK _ ?_; clear hK K)
        | refine AWP.seq fun K hK => ?_
        | refine AWP.seqR (by kernel_rfl) fun K hK => ?_
        | refine parVC_stepN rfl fun K hK => ?_
        | refine parVC_stepG rfl (by with_unfolding_all rfl) fun K hK => ?_
        | refine parEVC_stepN rfl fun K hK => ?_
        | refine parEVC_stepG rfl (by with_unfolding_all rfl) fun K hK => ?_
        | refine genVC_stepN rfl fun K hK => ?_
        | refine genVC_stepG rfl (by with_unfolding_all rfl) fun K hK => ?_
        | refine parVC_nil ?_
        | refine parEVC_nil ?_
        | refine genVC_nil ?_
        | (refine AWP.cond (by with_unfolding_all rfl) (fun h => ?_) (fun h => ?_); all_goals (try simp only [Bool.not_eq_true', Bool.not_eq_false'] at h); (all_goals try first | (exact absurd h Bool.false_ne_true) | (exact absurd h.symm Bool.false_ne_true) | (exact absurd h (by decide))))
        | refine AWP.skip ?_
        | refine AWP.ret ?_
        | refine AWP.block ?_
        | refine AWP.exit ?_
        | (refine ⟨fun h => ?_, fun h => ?_⟩ <;> (try simp only [Bool.not_eq_true', Bool.not_eq_false'] at h) <;> try simp only [h])
        | refine AWP.parR mixed (by kernel_rfl) fun K hK => ?_
        | refine ⟨(by kernel_rfl : depB _ _ _ = true), ?_⟩
        | refine Or.inl ?_)
      | (clear hK K))
    all_goals (first | exact fun _ h => (by cases h) | (refine fin0 ?_; first | rfl | (simp only [nodeB, hk, hlab, Bool.and_true, Bool.and_false, Bool.true_and, Bool.false_and, Bool.or_true, Bool.or_false, Bool.true_or, Bool.false_or, Bool.not_true, Bool.not_false, cond_true, cond_false, decide_true, decide_false]; done) | (simp only [nodeB, hk, hlab, Bool.and_true, Bool.and_false, Bool.true_and, Bool.false_and, Bool.or_true, Bool.or_false, Bool.true_or, Bool.false_or, Bool.not_true, Bool.not_false, cond_true, cond_false, decide_true, decide_false]; rfl)))
end Go.Proofs.Ytmpfdejckbceiaa
set_option linter.unusedSimpArgs false
set_option linter.unusedVariables false
set_option maxRecDepth 20000
set_option maxHeartbeats 4000000
namespace Go.Proofs.Ytmpfdejckbceiaa
open Go Go.Sx
open Nat renaming reduceBEq → zA, reduceBNe → zB, reduceAdd → zC, reduceSub → zD, reduceMul → zE, reduceLeDiff → zF, reduceLT → zG, reduceEqDiff → zH
open Int renaming reduceToNat → zI, reduceLE → zJ, reduceLT → zK, reduceEq → zL
theorem node_8 (v : Val) (hk : v.kind = 8) : PC Try.prog 83 [.st (encVal v)] (Bo (nodeB v)) := by
  have hlab : labelsB v.labels = goB Lib.compareBytes isVarB none v.labels := by rw [goB_none]; rfl
  refine PCB.of_body Try.func83 rfl (by decide) Try.ntmps83 Try.results83 rfl rfl rfl ?_ rfl rfl
  repeat' (first
    | (simp only [go_sem, zA, zB, zC, zD, zE, zF, zG, reduceCtorEq, zH, zI, zJ, zK, zL, encVal_eq, hk]; all_goals fail_if_success guard_target =ₛ False)
    | (with_reducible first
      | refine seqVC_stepN rfl fun K hK => ?_
      | refine seqVC_stepG rfl (by with_unfolding_all rfl) fun K hK => ?_
      | refine seqVC_nil ?_
      | (refine hK _ _ _ ?_; clear hK K)
      | (refine hK _ _ ?_; clear hK K)
      | (refine hK _ ?_; clear hK K)
      | refine AWP.seq fun K hK => ?_
      | refine AWP.seqR (by kernel_rfl) fun K hK => ?_
      | refine parVC_stepN rfl fun K hK => ?_
      | refine parVC_stepG rfl (by with_unfolding_all rfl) fun K hK => ?_
      | refine parEVC_stepN rfl fun K hK => ?_
      | refine parEVC_stepG rfl (by with_unfolding_all rfl) fun K hK => ?_
      | refine genVC_stepN rfl fun K hK => ?_
      | refine genVC_stepG rfl (by with_unfolding_all rfl) fun K hK => ?_
      | refine parVC_nil ?_
      | refine parEVC_nil ?_
      | refine genVC_nil ?_
      | (refine AWP.cond (by with_unfolding_all rfl) (fun h => ?_) (fun h => ?_); all_goals (try simp only [Bool.not_eq_true', Bool.not_eq_false'] at h); (all_goals try first | (exact absurd h Bool.false_ne_true) | (exact absurd h.symm Bool.false_ne_true) | (exact absurd h (by decide))))
      | refine AWP.skip ?_
      | refine AWP.ret ?_
      | refine AWP.block ?_
      | refine AWP.exit ?_
      | (refine ⟨fun h => ?_, fun h => ?_⟩ <;> (try simp only [Bool.not_eq_true', Bool.not_eq_false'] at h) <;> try simp only [h])
      | refine AWP.parR mixed (by kernel_rfl) fun K hK => ?_
      | refine ⟨(by kernel_rfl : depB _ _ _ = true), ?_⟩
      | refine Or.inl ?_)
    | (clear hK K))
  refine AWP.lenB 1 6 rfl rfl fun hlen0 => ?_
  (try rw [List.length_map] at hlen0)
  refine AWP.range (S := Unit) (v.labels) encStr (fun k s => (3, I .i64 (k : Nat)) :: []) (fun k s => []) [1] [1] (fun k s => goB Lib.compareBytes isVarB none v.labels = goB Lib.compareBytes isVarB (prevAt v.labels k) (v.labels.drop k)) (()) (by simp only [go_sem, zA, zB, zC, zD, zE, zF, zG, reduceCtorEq, zH, zI, zJ, zK, zL, encVal_eq]; exact Gh.to [] (by repeat (first | exact trivial | refine ⟨rfl, ?_⟩ | refine ⟨by (simp only [go_sem, zA, zB, zC, zD, zE, zF, zG, reduceCtorEq, zH, zI, zJ, zK, zL, List.length_append, List.length_map, List.length_cons, List.length_nil, Nat.zero_add]) <;> rfl, ?_⟩)) (by repeat (first | exact trivial | refine ⟨rfl, ?_⟩ | refine ⟨by (simp only [go_sem, zA, zB, zC, zD, zE, zF, zG, reduceCtorEq, zH, zI, zJ, zK, zL, List.length_append, List.length_map, List.length_cons, List.length_nil, Nat.zero_add]) <;> rfl, ?_⟩)) rfl rfl rfl) ?_ ?_ ?_
  · rfl
  · intro k s x hlt hx hx' hb hok
    simp only [go_sem, zA, zB, zC, zD, zE, zF, zG, reduceCtorEq, zH, zI, zJ, zK, zL]
    rcases Nat.eq_zero_or_eq_succ_pred k with hk0 | hk0
    · rw [goB_zero hk0 hx] at hok
      have hp0 : decide ((0 : Int) < (k : Int)) = false := by rw [hk0]; rfl
      cases hz : isVarB x <;> simp only [hz, Bool.true_and, Bool.false_and] at hok
      ·
        repeat' (first
          | (simp only [go_sem, zA, zB, zC, zD, zE, zF, zG, reduceCtorEq, zH, zI, zJ, zK, zL, encVal_eq, encStr, hk, List.length_map, hb, hz, hp0]; all_goals fail_if_success guard_target =ₛ False)
          | (with_reducible first
            | refine seqVC_stepN rfl fun K hK => ?_
            | refine seqVC_stepG rfl (by with_unfolding_all rfl) fun K hK => ?_
            | refine seqVC_nil ?_
            | (refine hK _ _ _ ?_; clear hK K)
            | (refine hK _ _ ?_; clear hK K)
            | (refine hK _ ?_; clear hK K)
            | refine AWP.seq fun K hK => ?_
            | refine AWP.seqR (by kernel_rfl) fun K hK => ?_
            | refine parVC_stepN rfl fun K hK => ?_
            | refine parVC_stepG rfl (by with_unfolding_all rfl) fun K hK => ?_
            | refine parEVC_stepN rfl fun K hK => ?_
            | refine parEVC_stepG rfl (by with_unfolding_all rfl) fun K hK => ?_
            | refine genVC_stepN rfl fun K hK => ?_
            | refine genVC_stepG rfl (by with_unfolding_all rfl) fun K hK => ?_
            | refine parVC_nil ?_
            | refine parEVC_nil ?_
            | refine genVC_nil ?_
            | (refine AWP.cond (by with_unfolding_all rfl) (fun h => ?_) (fun h => ?_); all_goals (try simp only [Bool.not_eq_true', Bool.not_eq_false'] at h); (all_goals try first | (exact absurd h Bool.false_ne_true) | (exact absurd h.symm Bool.false_ne_true) | (exact absurd h (by decide))))
            | refine AWP.skip ?_
            | refine AWP.ret ?_
            | refine AWP.block ?_
            | refine AWP.exit ?_
            | (refine ⟨fun h => ?_, fun h => ?_⟩ <;> (try simp only [Bool.not_eq_true', Bool.not_eq_false'] at h) <;> try simp only [h])
            | refine ⟨_, refIsVariable_c x, ?_⟩
            | refine ⟨by omega, encStr x, hx', ?_⟩
            | refine AWP.parR mixed (by kernel_rfl) fun K hK => ?_
            | refine ⟨(by kernel_rfl : depB _ _ _ = true), ?_⟩
            | refine Or.inl ?_)
          | (clear hK K))
        all_goals (first | exact fun _ h => (by cases h) | (refine fin0 ?_; first | rfl | (simp only [nodeB, hlab, hok, Bool.and_true, Bool.and_false, Bool.true_and, Bool.false_and, Bool.or_true, Bool.or_false, Bool.true_or, Bool.false_or, Bool.not_true, Bool.not_false, cond_true, cond_false, decide_true, decide_false]; done) | (simp only [nodeB, hlab, hok, Bool.and_true, Bool.and_false, Bool.true_and, Bool.false_and, Bool.or_true, Bool.or_false, Bool.true_or, Bool.false_or, Bool.not_true, Bool.not_false, cond_true, cond_false, decide_true, decide_false]; rfl)))
      ·
        repeat' (first
          | (simp only [go_sem, zA, zB, zC, zD, zE, zF, zG, reduceCtorEq, zH, zI, zJ, zK, zL, encVal_eq, encStr, hk, List.length_map, hb, hz, hp0]; all_goals fail_if_success guard_target =ₛ False)
          | (with_reducible first
            | refine seqVC_stepN rfl fun K hK => ?_
            | refine seqVC_stepG rfl (by with_unfolding_all rfl) fun K hK => ?_
            | refine seqVC_nil ?_
            | (refine hK _ _ _ ?_; clear hK K)
            | (refine hK _ _ ?_; clear hK K)
            | (refine hK _ ?_; clear hK K)
            | refine AWP.seq fun K hK => ?_
            | refine AWP.seqR (by kernel_rfl) fun K hK => ?_
            | refine parVC_stepN rfl fun K hK => ?_
            | refine parVC_stepG rfl (by with_unfolding_all rfl) fun K hK => ?_
            | refine parEVC_stepN rfl fun K hK => ?_
            | refine parEVC_stepG rfl (by with_unfolding_all rfl) fun K hK => ?_
            | refine genVC_stepN rfl fun K hK => ?_
            | refine genVC_stepG rfl (by with_unfolding_all rfl) fun K hK => ?_
            | refine parVC_nil ?_
            | refine parEVC_nil ?_
            | refine genVC_nil ?_
            | (refine AWP.cond (by with_unfolding_all rfl) (fun h => ?_) (fun h => ?_); all_goals (try simp only [Bool.not_eq_true', Bool.not_eq_false'] at h); (all_goals try first | (exact absurd h Bool.false_ne_true) | (exact absurd h.symm Bool.false_ne_true) | (exact absurd h (by decide))))
            | refine AWP.skip ?_
            | refine AWP.ret ?_
            | refine AWP.block ?_
            | refine AWP.exit ?_
            | (refine ⟨fun h => ?_, fun h => ?_⟩ <;> (try simp only [Bool.not_eq_true', Bool.not_eq_false'] at h) <;> try simp only [h])
            | refine ⟨_, refIsVariable_c x, ?_⟩
            | refine ⟨by omega, encStr x, hx', ?_⟩
            | refine AWP.parR mixed (by kernel_rfl) fun K hK => ?_
            | refine ⟨(by kernel_rfl : depB _ _ _ = true), ?_⟩
            | refine Or.inl ?_)
          | (clear hK K))
        all_goals (rw [wrap_succ hlt hlen0])
        all_goals (refine ⟨(), ?_, Gh.to [] (by repeat (first | exact trivial | refine ⟨rfl, ?_⟩ | refine ⟨by (simp only [go_sem, zA, zB, zC, zD, zE, zF, zG, reduceCtorEq, zH, zI, zJ, zK, zL, List.length_append, List.length_map, List.length_cons, List.length_nil, Nat.zero_add]) <;> rfl, ?_⟩)) (by repeat (first | exact trivial | refine ⟨rfl, ?_⟩ | refine ⟨by (simp only [go_sem, zA, zB, zC, zD, zE, zF, zG, reduceCtorEq, zH, zI, zJ, zK, zL, List.length_append, List.length_map, List.length_cons, List.length_nil, Nat.zero_add]) <;> rfl, ?_⟩)) rfl rfl rfl⟩)
        all_goals exact hok
    · obtain ⟨j, rfl⟩ : ∃ j, k = j + 1 := ⟨_, hk0⟩
      obtain ⟨y, hy, hy', _, _⟩ := at_lt (enc := encStr) (show j < v.labels.length by omega)
      rw [goB_succ hy hx] at hok
      have hw : IntKind.i64.wrap (((j + 1 : Nat) : Int) - 1) = (j : Int) := by rw [w64 (by omega)]; omega
      have hp0 : decide ((0 : Int) < ((j + 1 : Nat) : Int)) = true := by simp only [decide_eq_true_eq]; omega
      cases hz : isVarB x <;> cases hc : decide (Lib.compareBytes y x < 0) <;> simp only [hz, hc, Bool.true_and, Bool.false_and] at hok
      all_goals
        have hcg : decide (0 ≤ Lib.compareBytes y x) = !decide (Lib.compareBytes y x < 0) := by rw [← Bool.coe_iff_coe]; simp
        rw [hc] at hcg
      all_goals (have hl := less_dec y x; rw [hc] at hl)
      all_goals
        repeat' (first
          | (simp only [go_sem, zA, zB, zC, zD, zE, zF, zG, reduceCtorEq, zH, zI, zJ, zK, zL, encVal_eq, encStr, hk, List.length_map, hb, hz, hp0, hw, hcg, hl]; all_goals fail_if_success guard_target =ₛ False)
          | (with_reducible first
            | refine seqVC_stepN rfl fun K hK => ?_
            | refine seqVC_stepG rfl (by with_unfolding_all rfl) fun K hK => ?_
            | refine seqVC_nil ?_
            | (refine hK _ _ _ ?_; clear hK K)
            | (refine hK _ _ ?_; clear hK K)
            | (refine hK _ ?_; clear hK K)
            | refine AWP.seq fun K hK => ?_
            | refine AWP.seqR (by kernel_rfl) fun K hK => ?_
            | refine parVC_stepN rfl fun K hK => ?_
            | refine parVC_stepG rfl (by with_unfolding_all rfl) fun K hK => ?_
            | refine parEVC_stepN rfl fun K hK => ?_
            | refine parEVC_stepG rfl (by with_unfolding_all rfl) fun K hK => ?_
            | refine genVC_stepN rfl fun K hK => ?_
            | refine genVC_stepG rfl (by with_unfolding_all rfl) fun K hK => ?_
            | refine parVC_nil ?_
            | refine parEVC_nil ?_
            | refine genVC_nil ?_
            | (refine AWP.cond (by with_unfolding_all rfl) (fun h => ?_) (fun h => ?_); all_goals (try simp only [Bool.not_eq_true', Bool.not_eq_false'] at h); (all_goals try first | (exact absurd h Bool.false_ne_true) | (exact absurd h.symm Bool.false_ne_true) | (exact absurd h (by decide))))
            | refine AWP.skip ?_
            | refine AWP.ret ?_
            | refine AWP.block ?_
            | refine AWP.exit ?_
            | (refine ⟨fun h => ?_, fun h => ?_⟩ <;> (try simp only [Bool.not_eq_true', Bool.not_eq_false'] at h) <;> try simp only [h])
            | refine ⟨_, refIsVariable_c x, ?_⟩
            | refine ⟨by omega, encStr x, hx', ?_⟩
            | refine ⟨by omega, encStr y, hy', ?_⟩
            | refine AWP.parR mixed (by kernel_rfl) fun K hK => ?_
            | refine ⟨(by kernel_rfl : depB _ _ _ = true), ?_⟩
            | refine Or.inl ?_)
          | (clear hK K))
      any_goals (first | exact fun _ h => (by cases h) | (refine fin0 ?_; first | (simp only [nodeB, hlab, hok, Bool.and_true, Bool.and_false, Bool.true_and, Bool.false_and, Bool.or_true, Bool.or_false, Bool.true_or, Bool.false_or, Bool.not_true, Bool.not_false, cond_true, cond_false, decide_true, decide_false]; done) | (simp only [nodeB, hlab, hok, Bool.and_true, Bool.and_false, Bool.true_and, Bool.false_and, Bool.or_true, Bool.or_false, Bool.true_or, Bool.false_or, Bool.not_true, Bool.not_false, cond_true, cond_false, decide_true, decide_false]; rfl)))
      all_goals (rw [wrap_succ hlt hlen0])
      all_goals (refine ⟨(), ?_, Gh.to [] (by repeat (first | exact trivial | refine ⟨rfl, ?_⟩ | refine ⟨by (simp only [go_sem, zA, zB, zC, zD, zE, zF, zG, reduceCtorEq, zH, zI, zJ, zK, zL, List.length_append, List.length_map, List.length_cons, List.length_nil, Nat.zero_add]) <;> rfl, ?_⟩)) (by repeat (first | exact trivial | refine ⟨rfl, ?_⟩ | refine ⟨by (simp only [go_sem, zA, zB, zC, zD, zE, zF, zG, reduceCtorEq, zH, zI, zJ, zK, zL, List.length_append, List.length_map, List.length_cons, List.length_nil, Nat.zero_add]) <;> rfl, ?_⟩)) rfl rfl rfl⟩)
      all_goals exact hok
  intro s0 hb0 hok0
  simp only [go_sem, zA, zB, zC, zD, zE, zF, zG, reduceCtorEq, zH, zI, zJ, zK, zL]
  rw [goB_end] at hok0
  rw [hok0] at hlab
  have hmap : mapB v = (decide ((v.keys.length : Int) = (v.kids.length : Int)) && goB keyC validKeyB none v.keys) := by rw [goB_none]; rfl
  repeat' (first
    | (simp only [go_sem, zA, zB, zC, zD, zE, zF, zG, reduceCtorEq, zH, zI, zJ, zK, zL, encVal_eq, hk, hb0, List.length_map]; all_goals fail_if_success guard_target =ₛ False)
    | (with_reducible first
      | refine seqVC_stepN rfl fun K hK => ?_
      | refine seqVC_stepG rfl (by with_unfolding_all rfl) fun K hK => ?_
      | refine seqVC_nil ?_
      | (refine hK _ _ _ ?_; clear hK K)
      | (refine hK _ _ ?_; clear hK K)
      | (refine hK _ ?_; clear hK K)
      | refine AWP.seq fun K hK => ?_
      | refine AWP.seqR (by kernel_rfl) fun K hK => ?_
      | refine parVC_stepN rfl fun K hK => ?_
      | refine parVC_stepG rfl (by with_unfolding_all rfl) fun K hK => ?_
      | refine parEVC_stepN rfl fun K hK => ?_
      | refine parEVC_stepG rfl (by with_unfolding_all rfl) fun K hK => ?_
      | refine genVC_stepN rfl fun K hK => ?_
      | refine genVC_stepG rfl (by with_unfolding_all rfl) fun K hK => ?_
      | refine parVC_nil ?_
      | refine parEVC_nil ?_
      | refine genVC_nil ?_
      | (refine AWP.cond (by with_unfolding_all rfl) (fun h => ?_) (fun h => ?_); all_goals (try simp only [Bool.not_eq_true', Bool.not_eq_false'] at h); (all_goals try first | (exact absurd h Bool.false_ne_true) | (exact absurd h.symm Bool.false_ne_true) | (exact absurd h (by decide))))
      | refine AWP.skip ?_
      | refine AWP.ret ?_
      | refine AWP.block ?_
      | refine AWP.exit ?_
      | (refine ⟨fun h => ?_, fun h => ?_⟩ <;> (try simp only [Bool.not_eq_true', Bool.not_eq_false'] at h) <;> try simp only [h])
      | refine AWP.parR mixed (by kernel_rfl) fun K hK => ?_
      | refine ⟨(by kernel_rfl : depB _ _ _ = true), ?_⟩
      | refine Or.inl ?_)
    | (clear hK K))
  any_goals (first | exact fun _ h => (by cases h) | (refine fin0 ?_; simp only [nodeB, badFields, bodyB, kNum, kText, kKids, kKeys, kEnts, kKnown, hk, Int.reduceEq, Int.reduceLE, hlab, *, Bool.and_true, Bool.and_false, Bool.true_and, Bool.false_and, Bool.or_true, Bool.or_false, Bool.true_or, Bool.false_or, Bool.not_true, Bool.not_false, cond_true, cond_false, decide_true, decide_false]; done))
  refine AWP.lenB 1 4 rfl rfl fun hlen1 => ?_
  (try rw [List.length_map] at hlen1)
  refine AWP.range (S := Unit) (v.keys) encKey (fun k s => (7, I .i64 (k : Nat)) :: []) (fun k s => []) [1] [1] (fun k s => goB keyC validKeyB none v.keys = goB keyC validKeyB (prevAt v.keys k) (v.keys.drop k)) (()) (by simp only [go_sem, zA, zB, zC, zD, zE, zF, zG, reduceCtorEq, zH, zI, zJ, zK, zL, encVal_eq]; exact Gh.to [] (by repeat (first | exact trivial | refine ⟨rfl, ?_⟩ | refine ⟨by (simp only [go_sem, zA, zB, zC, zD, zE, zF, zG, reduceCtorEq, zH, zI, zJ, zK, zL, List.length_append, List.length_map, List.length_cons, List.length_nil, Nat.zero_add]) <;> rfl, ?_⟩)) (by repeat (first | exact trivial | refine ⟨rfl, ?_⟩ | refine ⟨by (simp only [go_sem, zA, zB, zC, zD, zE, zF, zG, reduceCtorEq, zH, zI, zJ, zK, zL, List.length_append, List.length_map, List.length_cons, List.length_nil, Nat.zero_add]) <;> rfl, ?_⟩)) rfl rfl rfl) ?_ ?_ ?_
  · rfl
  · intro k s x hlt hx hx' hb hok
    simp only [go_sem, zA, zB, zC, zD, zE, zF, zG, reduceCtorEq, zH, zI, zJ, zK, zL]
    rcases Nat.eq_zero_or_eq_succ_pred k with hk0 | hk0
    · rw [goB_zero hk0 hx] at hok
      have hp0 : decide ((0 : Int) < (k : Int)) = false := by rw [hk0]; rfl
      cases hz : validKeyB x <;> simp only [hz, Bool.true_and, Bool.false_and] at hok
      ·
        repeat' (first
          | (simp only [go_sem, zA, zB, zC, zD, zE, zF, zG, reduceCtorEq, zH, zI, zJ, zK, zL, encVal_eq, hk, List.length_map, hb, hz, hp0]; all_goals fail_if_success guard_target =ₛ False)
          | (with_reducible first
            | refine seqVC_stepN rfl fun K hK => ?_
            | refine seqVC_stepG rfl (by with_unfolding_all rfl) fun K hK => ?_
            | refine seqVC_nil ?_
            | (refine hK _ _ _ ?_; clear hK K)
            | (refine hK _ _ ?_; clear hK K)
            | (refine hK _ ?_; clear hK K)
            | refine AWP.seq fun K hK => ?_
            | refine AWP.seqR (by kernel_rfl) fun K hK => ?_
            | refine parVC_stepN rfl fun K hK => ?_
            | refine parVC_stepG rfl (by with_unfolding_all rfl) fun K hK => ?_
            | refine parEVC_stepN rfl fun K hK => ?_
            | refine parEVC_stepG rfl (by with_unfolding_all rfl) fun K hK => ?_
            | refine genVC_stepN rfl fun K hK => ?_
            | refine genVC_stepG rfl (by with_unfolding_all rfl) fun K hK => ?_
            | refine parVC_nil ?_
            | refine parEVC_nil ?_
            | refine genVC_nil ?_
            | (refine AWP.cond (by with_unfolding_all rfl) (fun h => ?_) (fun h => ?_); all_goals (try simp only [Bool.not_eq_true', Bool.not_eq_false'] at h); (all_goals try first | (exact absurd h Bool.false_ne_true) | (exact absurd h.symm Bool.false_ne_true) | (exact absurd h (by decide))))
            | refine AWP.skip ?_
            | refine AWP.ret ?_
            | refine AWP.block ?_
            | refine AWP.exit ?_
            | (refine ⟨fun h => ?_, fun h => ?_⟩ <;> (try simp only [Bool.not_eq_true', Bool.not_eq_false'] at h) <;> try simp only [h])
            | refine ⟨_, validKey_c x, ?_⟩
            | refine ⟨by omega, encKey x, hx', ?_⟩
            | refine AWP.parR mixed (by kernel_rfl) fun K hK => ?_
            | refine ⟨(by kernel_rfl : depB _ _ _ = true), ?_⟩
            | refine Or.inl ?_)
          | (clear hK K))
        all_goals (first | exact fun _ h => (by cases h) | (refine fin0 ?_; first | rfl | (simp only [nodeB, badFields, bodyB, kNum, kText, kKids, kKeys, kEnts, kKnown, hk, Int.reduceEq, Int.reduceLE, hmap, hlab, hok, *, Bool.and_true, Bool.and_false, Bool.true_and, Bool.false_and, Bool.or_true, Bool.or_false, Bool.true_or, Bool.false_or, Bool.not_true, Bool.not_false, cond_true, cond_false, decide_true, decide_false]; done) | (simp only [nodeB, badFields, bodyB, kNum, kText, kKids, kKeys, kEnts, kKnown, hk, Int.reduceEq, Int.reduceLE, hmap, hlab, hok, *, Bool.and_true, Bool.and_false, Bool.true_and, Bool.false_and, Bool.or_true, Bool.or_false, Bool.true_or, Bool.false_or, Bool.not_true, Bool.not_false, cond_true, cond_false, decide_true, decide_false]; rfl)))
      ·
        repeat' (first
          | (simp only [go_sem, zA, zB, zC, zD, zE, zF, zG, reduceCtorEq, zH, zI, zJ, zK, zL, encVal_eq, hk, List.length_map, hb, hz, hp0]; all_goals fail_if_success guard_target =ₛ False)
          | (with_reducible first
            | refine seqVC_stepN rfl fun K hK => ?_
            | refine seqVC_stepG rfl (by with_unfolding_all rfl) fun K hK => ?_
            | refine seqVC_nil ?_
            | (refine hK _ _ _ ?_; clear hK K)
            | (refine hK _ _ ?_; clear hK K)
            | (refine hK _ ?_; clear hK K)
            | refine AWP.seq fun K hK => ?_
            | refine AWP.seqR (by kernel_rfl) fun K hK => ?_
            | refine parVC_stepN rfl fun K hK => ?_
            | refine parVC_stepG rfl (by with_unfolding_all rfl) fun K hK => ?_
            | refine parEVC_stepN rfl fun K hK => ?_
            | refine parEVC_stepG rfl (by with_unfolding_all rfl) fun K hK => ?_
            | refine genVC_stepN rfl fun K hK => ?_
            | refine genVC_stepG rfl (by with_unfolding_all rfl) fun K hK => ?_
            | refine parVC_nil ?_
            | refine parEVC_nil ?_
            | refine genVC_nil ?_
            | (refine AWP.cond (by with_unfolding_all rfl) (fun h => ?_) (fun h => ?_); all_goals (try simp only [Bool.not_eq_true', Bool.not_eq_false'] at h); (all_goals try first | (exact absurd h Bool.false_ne_true) | (exact absurd h.symm Bool.false_ne_true) | (exact absurd h (by decide))))
            | refine AWP.skip ?_
            | refine AWP.ret ?_
            | refine AWP.block ?_
            | refine AWP.exit ?_
            | (refine ⟨fun h => ?_, fun h => ?_⟩ <;> (try simp only [Bool.not_eq_true', Bool.not_eq_false'] at h) <;> try simp only [h])
            | refine ⟨_, validKey_c x, ?_⟩
            | refine ⟨by omega, encKey x, hx', ?_⟩
            | refine AWP.parR mixed (by kernel_rfl) fun K hK => ?_
            | refine ⟨(by kernel_rfl : depB _ _ _ = true), ?_⟩
            | refine Or.inl ?_)
          | (clear hK K))
        all_goals (rw [wrap_succ hlt hlen1])
        all_goals (refine ⟨(), ?_, Gh.to [] (by repeat (first | exact trivial | refine ⟨rfl, ?_⟩ | refine ⟨by (simp only [go_sem, zA, zB, zC, zD, zE, zF, zG, reduceCtorEq, zH, zI, zJ, zK, zL, List.length_append, List.length_map, List.length_cons, List.length_nil, Nat.zero_add]) <;> rfl, ?_⟩)) (by repeat (first | exact trivial | refine ⟨rfl, ?_⟩ | refine ⟨by (simp only [go_sem, zA, zB, zC, zD, zE, zF, zG, reduceCtorEq, zH, zI, zJ, zK, zL, List.length_append, List.length_map, List.length_cons, List.length_nil, Nat.zero_add]) <;> rfl, ?_⟩)) rfl rfl rfl⟩)
        all_goals exact hok
    · obtain ⟨j, rfl⟩ : ∃ j, k = j + 1 := ⟨_, hk0⟩
      obtain ⟨y, hy, hy', _, _⟩ := at_lt (enc := encKey) (show j < v.keys.length by omega)
      rw [goB_succ hy hx] at hok
      have hw : IntKind.i64.wrap (((j + 1 : Nat) : Int) - 1) = (j : Int) := by rw [w64 (by omega)]; omega
      have hp0 : decide ((0 : Int) < ((j + 1 : Nat) : Int)) = true := by simp only [decide_eq_true_eq]; omega
      cases hz : validKeyB x <;> cases hc : decide (keyC y x < 0) <;> simp only [hz, hc, Bool.true_and, Bool.false_and] at hok
      all_goals
        have hcg : decide (0 ≤ keyC y x) = !decide (keyC y x < 0) := by rw [← Bool.coe_iff_coe]; simp
        rw [hc] at hcg
      all_goals
        repeat' (first
          | (simp only [go_sem, zA, zB, zC, zD, zE, zF, zG, reduceCtorEq, zH, zI, zJ, zK, zL, encVal_eq, hk, List.length_map, hb, hz, hp0, hw, hcg]; all_goals fail_if_success guard_target =ₛ False)
          | (with_reducible first
            | refine seqVC_stepN rfl fun K hK => ?_
            | refine seqVC_stepG rfl (by with_unfolding_all rfl) fun K hK => ?_
            | refine seqVC_nil ?_
            | (refine hK _ _ _ ?_; clear hK K)
            | (refine hK _ _ ?_; clear hK K)
            | (refine hK _ ?_; clear hK K)
            | refine AWP.seq fun K hK => ?_
            | refine AWP.seqR (by kernel_rfl) fun K hK => ?_
            | refine parVC_stepN rfl fun K hK => ?_
            | refine parVC_stepG rfl (by with_unfolding_all rfl) fun K hK => ?_
            | refine parEVC_stepN rfl fun K hK => ?_
            | refine parEVC_stepG rfl (by with_unfolding_all rfl) fun K hK => ?_
            | refine genVC_stepN rfl fun K hK => ?_
            | refine genVC_stepG rfl (by with_unfolding_all rfl) fun K hK => ?_
            | refine parVC_nil ?_
            | refine parEVC_nil ?_
            | refine genVC_nil ?_
            | (refine AWP.cond (by with_unfolding_all rfl) (fun h => ?_) (fun h => ?_); all_goals (try simp only [Bool.not_eq_true', Bool.not_eq_false'] at h); (all_goals try first | (exact absurd h Bool.false_ne_true) | (exact absurd h.symm Bool.false_ne_true) | (exact absurd h (by decide))))
            | refine AWP.skip ?_
            | refine AWP.ret ?_
            | refine AWP.block ?_
            | refine AWP.exit ?_
            | (refine ⟨fun h => ?_, fun h => ?_⟩ <;> (try simp only [Bool.not_eq_true', Bool.not_eq_false'] at h) <;> try simp only [h])
            | refine ⟨_, validKey_c x, ?_⟩
            | refine ⟨_, refKeys_c y x, ?_⟩
            | refine ⟨by omega, encKey x, hx', ?_⟩
            | refine ⟨by omega, encKey y, hy', ?_⟩
            | refine AWP.parR mixed (by kernel_rfl) fun K hK => ?_
            | refine ⟨(by kernel_rfl : depB _ _ _ = true), ?_⟩
            | refine Or.inl ?_)
          | (clear hK K))
      any_goals (first | exact fun _ h => (by cases h) | (refine fin0 ?_; first | (simp only [nodeB, badFields, bodyB, kNum, kText, kKids, kKeys, kEnts, kKnown, hk, Int.reduceEq, Int.reduceLE, hmap, hlab, *, hok, Bool.and_true, Bool.and_false, Bool.true_and, Bool.false_and, Bool.or_true, Bool.or_false, Bool.true_or, Bool.false_or, Bool.not_true, Bool.not_false, cond_true, cond_false, decide_true, decide_false]; done) | (simp only [nodeB, badFields, bodyB, kNum, kText, kKids, kKeys, kEnts, kKnown, hk, Int.reduceEq, Int.reduceLE, hmap, hlab, *, hok, Bool.and_true, Bool.and_false, Bool.true_and, Bool.false_and, Bool.or_true, Bool.or_false, Bool.true_or, Bool.false_or, Bool.not_true, Bool.not_false, cond_true, cond_false, decide_true, decide_false]; rfl)))
      all_goals (rw [wrap_succ hlt hlen1])
      all_goals (refine ⟨(), ?_, Gh.to [] (by repeat (first | exact trivial | refine ⟨rfl, ?_⟩ | refine ⟨by (simp only [go_sem, zA, zB, zC, zD, zE, zF, zG, reduceCtorEq, zH, zI, zJ, zK, zL, List.length_append, List.length_map, List.length_cons, List.length_nil, Nat.zero_add]) <;> rfl, ?_⟩)) (by repeat (first | exact trivial | refine ⟨rfl, ?_⟩ | refine ⟨by (simp only [go_sem, zA, zB, zC, zD, zE, zF, zG, reduceCtorEq, zH, zI, zJ, zK, zL, List.length_append, List.length_map, List.length_cons, List.length_nil, Nat.zero_add]) <;> rfl, ?_⟩)) rfl rfl rfl⟩)
      all_goals exact hok
  intro s1 hb1 hok1
  simp only [go_sem, zA, zB, zC, zD, zE, zF, zG, reduceCtorEq, zH, zI, zJ, zK, zL]
  rw [goB_end] at hok1
  rw [hok1] at hmap
  repeat' (first
    | (simp only [go_sem, zA, zB, zC, zD, zE, zF, zG, reduceCtorEq, zH, zI, zJ, zK, zL, encVal_eq, hk, hb1, List.length_map]; all_goals fail_if_success guard_target =ₛ False)
    | (with_reducible first
      | refine seqVC_stepN rfl fun K hK => ?_
      | refine seqVC_stepG rfl (by with_unfolding_all rfl) fun K hK => ?_
      | refine seqVC_nil ?_
      | (refine hK _ _ _ ?_; clear hK K)
      | (refine hK _ _ ?_; clear hK K)
      | (refine hK _ ?_; clear hK K)
      | refine AWP.seq fun K hK => ?_
      | refine AWP.seqR (by kernel_rfl) fun K hK => ?_
      | refine parVC_stepN rfl fun K hK => ?_
      | refine parVC_stepG rfl (by with_unfolding_all rfl) fun K hK => ?_
      | refine parEVC_stepN rfl fun K hK => ?_
      | refine parEVC_stepG rfl (by with_unfolding_all rfl) fun K hK => ?_
      | refine genVC_stepN rfl fun K hK => ?_
      | refine genVC_stepG rfl (by with_unfolding_all rfl) fun K hK => ?_
      | refine parVC_nil ?_
      | refine parEVC_nil ?_
      | refine genVC_nil ?_
      | (refine AWP.cond (by with_unfolding_all rfl) (fun h => ?_) (fun h => ?_); all_goals (try simp only [Bool.not_eq_true', Bool.not_eq_false'] at h); (all_goals try first | (exact absurd h Bool.false_ne_true) | (exact absurd h.symm Bool.false_ne_true) | (exact absurd h (by decide))))
      | refine AWP.skip ?_
      | refine AWP.ret ?_
      | refine AWP.block ?_
      | refine AWP.exit ?_
      | (refine ⟨fun h => ?_, fun h => ?_⟩ <;> (try simp only [Bool.not_eq_true', Bool.not_eq_false'] at h) <;> try simp only [h])
      | refine AWP.parR mixed (by kernel_rfl) fun K hK => ?_
      | refine ⟨(by kernel_rfl : depB _ _ _ = true), ?_⟩
      | refine Or.inl ?_)
    | (clear hK K))
  all_goals (first | exact fun _ h => (by cases h) | (refine fin0 ?_; first | rfl | (simp only [nodeB, badFields, bodyB, kNum, kText, kKids, kKeys, kEnts, kKnown, hk, Int.reduceEq, Int.reduceLE, hlab, hmap, *, Bool.and_true, Bool.and_false, Bool.true_and, Bool.false_and, Bool.or_true, Bool.or_false, Bool.true_or, Bool.false_or, Bool.not_true, Bool.not_false, cond_true, cond_false, decide_true, decide_false]; done) | (simp only [nodeB, badFields, bodyB, kNum, kText, kKids, kKeys, kEnts, kKnown, hk, Int.reduceEq, Int.reduceLE, hlab, hmap, *, Bool.and_true, Bool.and_false, Bool.true_and, Bool.false_and, Bool.or_true, Bool.or_false, Bool.true_or, Bool.false_or, Bool.not_true, Bool.not_false, cond_true, cond_false, decide_true, decide_false]; rfl)))
end Go.Proofs.Ytmpfdejckbceiaa
set_option linter.unusedSimpArgs false
set_option linter.unusedVariables false
set_option maxRecDepth 20000
set_option maxHeartbeats 4000000
namespace Go.Proofs.Ytmpfdejckbceiaa
open Go Go.Sx
open Nat renaming reduceBEq → zA, reduceBNe → zB, reduceAdd → zC, reduceSub → zD, reduceMul → zE, reduceLeDiff → zF, reduceLT → zG, reduceEqDiff → zH
open Int renaming reduceToNat → zI, reduceLE → zJ, reduceLT → zK, reduceEq → zL
theorem node_9 (v : Val) (hk : v.kind = 9) : PC Try.prog 83 [.st (encVal v)] (Bo (nodeB v)) := by
  have hlab : labelsB v.labels = goB Lib.compareBytes isVarB none v.labels := by rw [goB_none]; rfl
  refine PCB.of_body Try.func83 rfl (by decide) Try.ntmps83 Try.results83 rfl rfl rfl ?_ rfl rfl
  repeat' (first
    | (simp only [go_sem, zA, zB, zC, zD, zE, zF, zG, reduceCtorEq, zH, zI, zJ, zK, zL, encVal_eq, hk]; all_goals fail_if_success guard_target =ₛ False)
    | (with_reducible first
      | refine seqVC_stepN rfl fun K hK => ?_
      | refine seqVC_stepG rfl (by with_unfolding_all rfl) fun K hK => ?_
      | refine seqVC_nil ?_
      | (refine hK _ _ _ ?_; clear hK K)
      | (refine hK _ _ ?_; clear hK K)
      | (refine hK _ ?_; clear hK K)
      | refine AWP.seq fun K hK => ?_
      | refine AWP.seqR (by kernel_rfl) fun K hK => ?_
      | refine parVC_stepN rfl fun K hK => ?_
      | refine parVC_stepG rfl (by with_unfolding_all rfl) fun K hK => ?_
      | refine parEVC_stepN rfl fun K hK => ?_
      | refine parEVC_stepG rfl (by with_unfolding_all rfl) fun K hK => ?_
      | refine genVC_stepN rfl fun K hK => ?_
      | refine genVC_stepG rfl (by with_unfolding_all rfl) fun K hK => ?_
      | refine parVC_nil ?_
      | refine parEVC_nil ?_
      | refine genVC_nil ?_
      | (refine AWP.cond (by with_unfolding_all rfl) (fun h => ?_) (fun h => ?_); all_goals (try simp only [Bool.not_eq_true', Bool.not_eq_false'] at h); (all_goals try first | (exact absurd h Bool.false_ne_true) | (exact absurd h.symm Bool.false_ne_true) | (exact absurd h (by decide))))
      | refine AWP.skip ?_
      | refine AWP.ret ?_
      | refine AWP.block ?_
      | refine AWP.exit ?_
      | (refine ⟨fun h => ?_, fun h => ?_⟩ <;> (try simp only [Bool.not_eq_true', Bool.not_eq_false'] at h) <;> try simp only [h])
      | refine AWP.parR mixed (by kernel_rfl) fun K hK => ?_
      | refine ⟨(by kernel_rfl : depB _ _ _ = true), ?_⟩
      | refine Or.inl ?_)
    | (clear hK K))
  refine AWP.lenB 1 6 rfl rfl fun hlen0 => ?_
  (try rw [List.length_map] at hlen0)
  refine AWP.range (S := Unit) (v.labels) encStr (fun k s => (3, I .i64 (k : Nat)) :: []) (fun k s => []) [1] [1] (fun k s => goB Lib.compareBytes isVarB none v.labels = goB Lib.compareBytes isVarB (prevAt v.labels k) (v.labels.drop k)) (()) (by simp only [go_sem, zA, zB, zC, zD, zE, zF, zG, reduceCtorEq, zH, zI, zJ, zK, zL, encVal_eq]; exact Gh.to [] (by repeat (first | exact trivial | refine ⟨rfl, ?_⟩ | refine ⟨by (simp only [go_sem, zA, zB, zC, zD, zE, zF, zG, reduceCtorEq, zH, zI, zJ, zK, zL, List.length_append, List.length_map, List.length_cons, List.length_nil, Nat.zero_add]) <;> rfl, ?_⟩)) (by repeat (first | exact trivial | refine ⟨rfl, ?_⟩ | refine ⟨by (simp only [go_sem, zA, zB, zC, zD, zE, zF, zG, reduceCtorEq, zH, zI, zJ, zK, zL, List.length_append, List.length_map, List.length_cons, List.length_nil, Nat.zero_add]) <;> rfl, ?_⟩)) rfl rfl rfl) ?_ ?_ ?_
  · rfl
  · intro k s x hlt hx hx' hb hok
    simp only [go_sem, zA, zB, zC, zD, zE, zF, zG, reduceCtorEq, zH, zI, zJ, zK, zL]
    rcases Nat.eq_zero_or_eq_succ_pred k with hk0 | hk0
    · rw [goB_zero hk0 hx] at hok
      have hp0 : decide ((0 : Int) < (k : Int)) = false := by rw [hk0]; rfl
      cases hz : isVarB x <;> simp only [hz, Bool.true_and, Bool.false_and] at hok
      ·
        repeat' (first
          | (simp only [go_sem, zA, zB, zC, zD, zE, zF, zG, reduceCtorEq, zH, zI, zJ, zK, zL, encVal_eq, encStr, hk, List.length_map, hb, hz, hp0]; all_goals fail_if_success guard_target =ₛ False)
          | (with_reducible first
            | refine seqVC_stepN rfl fun K hK => ?_
            | refine seqVC_stepG rfl (by with_unfolding_all rfl) fun K hK => ?_
            | refine seqVC_nil ?_
            | (refine hK _ _ _ ?_; clear hK K)
            | (refine hK _ _ ?_; clear hK K)
            | (refine hK _ ?_; clear hK K)
            | refine AWP.seq fun K hK => ?_
            | refine AWP.seqR (by kernel_rfl) fun K hK => ?_
            | refine parVC_stepN rfl fun K hK => ?_
            | refine parVC_stepG rfl (by with_unfolding_all rfl) fun K hK => ?_
            | refine parEVC_stepN rfl fun K hK => ?_
            | refine parEVC_stepG rfl (by with_unfolding_all rfl) fun K hK => ?_
            | refine genVC_stepN rfl fun K hK => ?_
            | refine genVC_stepG rfl (by with_unfolding_all rfl) fun K hK => ?_
            | refine parVC_nil ?_
            | refine parEVC_nil ?_
            | refine genVC_nil ?_
            | (refine AWP.cond (by with_unfolding_all rfl) (fun h => ?_) (fun h => ?_); all_goals (try simp only [Bool.not_eq_true', Bool.not_eq_false'] at h); (all_goals try first | (exact absurd h Bool.false_ne_true) | (exact absurd h.symm Bool.false_ne_true) | (exact absurd h (by decide))))
            | refine AWP.skip ?_
            | refine AWP.ret ?_
            | refine AWP.block ?_
            | refine AWP.exit ?_
            | (refine ⟨fun h => ?_, fun h => ?_⟩ <;> (try simp only [Bool.not_eq_true', Bool.not_eq_false'] at h) <;> try simp only [h])
            | refine ⟨_, refIsVariable_c x, ?_⟩
            | refine ⟨by omega, encStr x, hx', ?_⟩
            | refine AWP.parR mixed (by kernel_rfl) fun K hK => ?_
            | refine ⟨(by kernel_rfl : depB _ _ _ = true), ?_⟩
            | refine Or.inl ?_)
          | (clear hK K))
        all_goals (first | exact fun _ h => (by cases h) | (refine fin0 ?_; first | rfl | (simp only [nodeB, hlab, hok, Bool.and_true, Bool.and_false, Bool.true_and, Bool.false_and, Bool.or_true, Bool.or_false, Bool.true_or, Bool.false_or, Bool.not_true, Bool.not_false, cond_true, cond_false, decide_true, decide_false]; done) | (simp only [nodeB, hlab, hok, Bool.and_true, Bool.and_false, Bool.true_and, Bool.false_and, Bool.or_true, Bool.or_false, Bool.true_or, Bool.false_or, Bool.not_true, Bool.not_false, cond_true, cond_false, decide_true, decide_false]; rfl)))
      ·
        repeat' (first
          | (simp only [go_sem, zA, zB, zC, zD, zE, zF, zG, reduceCtorEq, zH, zI, zJ, zK, zL, encVal_eq, encStr, hk, List.length_map, hb, hz, hp0]; all_goals fail_if_success guard_target =ₛ False)
          | (with_reducible first
            | refine seqVC_stepN rfl fun K hK => ?_
            | refine seqVC_stepG rfl (by with_unfolding_all rfl) fun K hK => ?_
            | refine seqVC_nil ?_
            | (refine hK _ _ _ ?_; clear hK K)
            | (refine hK _ _ ?_; clear hK K)
            | (refine hK _ ?_; clear hK K)
            | refine AWP.seq fun K hK => ?_
            | refine AWP.seqR (by kernel_rfl) fun K hK => ?_
            | refine parVC_stepN rfl fun K hK => ?_
            | refine parVC_stepG rfl (by with_unfolding_all rfl) fun K hK => ?_
            | refine parEVC_stepN rfl fun K hK => ?_
            | refine parEVC_stepG rfl (by with_unfolding_all rfl) fun K hK => ?_
            | refine genVC_stepN rfl fun K hK => ?_
            | refine genVC_stepG rfl (by with_unfolding_all rfl) fun K hK => ?_
            | refine parVC_nil ?_
            | refine parEVC_nil ?_
            | refine genVC_nil ?_
            | (refine AWP.cond (by with_unfolding_all rfl) (fun h => ?_) (fun h => ?_); all_goals (try simp only [Bool.not_eq_true', Bool.not_eq_false'] at h); (all_goals try first | (exact absurd h Bool.false_ne_true) | (exact absurd h.symm Bool.false_ne_true) | (exact absurd h (by decide))))
            | refine AWP.skip ?_
            | refine AWP.ret ?_
            | refine AWP.block ?_
            | refine AWP.exit ?_
            | (refine ⟨fun h => ?_, fun h => ?_⟩ <;> (try simp only [Bool.not_eq_true', Bool.not_eq_false'] at h) <;> try simp only [h])
            | refine ⟨_, refIsVariable_c x, ?_⟩
            | refine ⟨by omega, encStr x, hx', ?_⟩
            | refine AWP.parR mixed (by kernel_rfl) fun K hK => ?_
            | refine ⟨(by kernel_rfl : depB _ _ _ = true), ?_⟩
            | refine Or.inl ?_)
          | (clear hK K))
        all_goals (rw [wrap_succ hlt hlen0])
        all_goals (refine ⟨(), ?_, Gh.to [] (by repeat (first | exact trivial | refine ⟨rfl, ?_⟩ | refine ⟨by (simp only [go_sem, zA, zB, zC, zD, zE, zF, zG, reduceCtorEq, zH, zI, zJ, zK, zL, List.length_append, List.length_map, List.length_cons, List.length_nil, Nat.zero_add]) <;> rfl, ?_⟩)) (by repeat (first | exact trivial | refine ⟨rfl, ?_⟩ | refine ⟨by (simp only [go_sem, zA, zB, zC, zD, zE, zF, zG, reduceCtorEq, zH, zI, zJ, zK, zL, List.length_append, List.length_map, List.length_cons, List.length_nil, Nat.zero_add]) <;> rfl, ?_⟩)) rfl rfl rfl⟩)
        all_goals exact hok
    · obtain ⟨j, rfl⟩ : ∃ j, k = j + 1 := ⟨_, hk0⟩
      obtain ⟨y, hy, hy', _, _⟩ := at_lt (enc := encStr) (show j < v.labels.length by omega)
      rw [goB_succ hy hx] at hok
      have hw : IntKind.i64.wrap (((j + 1 : Nat) : Int) - 1) = (j : Int) := by rw [w64 (by omega)]; omega
      have hp0 : decide ((0 : Int) < ((j + 1 : Nat) : Int)) = true := by simp only [decide_eq_true_eq]; omega
      cases hz : isVarB x <;> cases hc : decide (Lib.compareBytes y x < 0) <;> simp only [hz, hc, Bool.true_and, Bool.false_and] at hok
      all_goals
        have hcg : decide (0 ≤ Lib.compareBytes y x) = !decide (Lib.compareBytes y x < 0) := by rw [← Bool.coe_iff_coe]; simp
        rw [hc] at hcg
      all_goals (have hl := less_dec y x; rw [hc] at hl)
      all_goals
        repeat' (first
          | (simp only [go_sem, zA, zB, zC, zD, zE, zF, zG, reduceCtorEq, zH, zI, zJ, zK, zL, encVal_eq, encStr, hk, List.length_map, hb, hz, hp0, hw, hcg, hl]; all_goals fail_if_success guard_target =ₛ False)
          | (with_reducible first
            | refine seqVC_stepN rfl fun K hK => ?_
            | refine seqVC_stepG rfl (by with_unfolding_all rfl) fun K hK => ?_
            | refine seqVC_nil ?_
            | (refine hK _ _ _ ?_; clear hK K)
            | (refine hK _ _ ?_; clear hK K)
            | (refine hK _ ?_; clear hK K)
            | refine AWP.seq fun K hK => ?_
            | refine AWP.seqR (by kernel_rfl) fun K hK => ?_
            | refine parVC_stepN rfl fun K hK => ?_
            | refine parVC_stepG rfl (by with_unfolding_all rfl) fun K hK => ?_
            | refine parEVC_stepN rfl fun K hK => ?_
            | refine parEVC_stepG rfl (by with_unfolding_all rfl) fun K hK => ?_
            | refine genVC_stepN rfl fun K hK => ?_
            | refine genVC_stepG rfl (by with_unfolding_all rfl) fun K hK => ?_
            | refine parVC_nil ?_
            | refine parEVC_nil ?_
            | refine genVC_nil ?_
            | (refine AWP.cond (by with_unfolding_all rfl) (fun h => ?_) (fun h => ?_); all_goals (try simp only [Bool.not_eq_true', Bool.not_eq_false'] at h); (all_goals try first | (exact absurd h Bool.false_ne_true) | (exact absurd h.symm Bool.false_ne_true) | (exact absurd h (by decide))))
            | refine AWP.skip ?_
            | refine AWP.ret ?_
            | refine AWP.block ?_
            | refine AWP.exit ?_
            | (refine ⟨fun h => ?_, fun h => ?_⟩ <;> (try simp only [Bool.not_eq_true', Bool.not_eq_false'] at h) <;> try simp only [h])
            | refine ⟨_, refIsVariable_c x, ?_⟩
            | refine ⟨by omega, encStr x, hx', ?_⟩
            | refine ⟨by omega, encStr y, hy', ?_⟩
            | refine AWP.parR mixed (by kernel_rfl) fun K hK => ?_
            | refine ⟨(by kernel_rfl : depB _ _ _ = true), ?_⟩
            | refine Or.inl ?_)
          | (clear hK K))
      any_goals (first | exact fun _ h => (by cases h) | (refine fin0 ?_; first | (simp only [nodeB, hlab, hok, Bool.and_true, Bool.and_false, Bool.true_and, Bool.false_and, Bool.or_true, Bool.or_false, Bool.true_or, Bool.false_or, Bool.not_true, Bool.not_false, cond_true, cond_false, decide_true, decide_false]; done) | (simp only [nodeB, hlab, hok, Bool.and_true, Bool.and_false, Bool.true_and, Bool.false_and, Bool.or_true, Bool.or_false, Bool.true_or, Bool.false_or, Bool.not_true, Bool.not_false, cond_true, cond_false, decide_true, decide_false]; rfl)))
      all_goals (rw [wrap_succ hlt hlen0])
      all_goals (refine ⟨(), ?_, Gh.to [] (by repeat (first | exact trivial | refine ⟨rfl, ?_⟩ | refine ⟨by (simp only [go_sem, zA, zB, zC, zD, zE, zF, zG, reduceCtorEq, zH, zI, zJ, zK, zL, List.length_append, List.length_map, List.length_cons, List.length_nil, Nat.zero_add]) <;> rfl, ?_⟩)) (by repeat (first | exact trivial | refine ⟨rfl, ?_⟩ | refine ⟨by (simp only [go_sem, zA, zB, zC, zD, zE, zF, zG, reduceCtorEq, zH, zI, zJ, zK, zL, List.length_append, List.length_map, List.length_cons, List.length_nil, Nat.zero_add]) <;> rfl, ?_⟩)) rfl rfl rfl⟩)
      all_goals exact hok
  intro s0 hb0 hok0
  simp only [go_sem, zA, zB, zC, zD, zE, zF, zG, reduceCtorEq, zH, zI, zJ, zK, zL]
  rw [goB_end] at hok0
  rw [hok0] at hlab
  have hfun : funB v = (!(decide (v.num < 0) || decide (4 < v.num)) && goB entC (fun e => entB e v.num) none v.ents) := by
    rw [goB_none, funB]
    cases decide (v.num < 0) <;> cases decide (4 < v.num) <;> cases ascB entC v.ents <;> rfl
  have hze := zeroVal_lit
  repeat' (first
    | (simp only [go_sem, zA, zB, zC, zD, zE, zF, zG, reduceCtorEq, zH, zI, zJ, zK, zL, encVal_eq, hk, hb0, List.length_map]; all_goals fail_if_success guard_target =ₛ False)
    | (with_reducible first
      | refine seqVC_stepN rfl fun K hK => ?_
      | refine seqVC_stepG rfl (by with_unfolding_all rfl) fun K hK => ?_
      | refine seqVC_nil ?_
      | (refine hK _ _ _ ?_; clear hK K)
      | (refine hK _ _ ?_; clear hK K)
      | (refine hK _ ?_; clear hK K)
      | refine AWP.seq fun K hK => ?_
      | refine AWP.seqR (by kernel_rfl) fun K hK => ?_
      | refine parVC_stepN rfl fun K hK => ?_
      | refine parVC_stepG rfl (by with_unfolding_all rfl) fun K hK => ?_
      | refine parEVC_stepN rfl fun K hK => ?_
      | refine parEVC_stepG rfl (by with_unfolding_all rfl) fun K hK => ?_
      | refine genVC_stepN rfl fun K hK => ?_
      | refine genVC_stepG rfl (by with_unfolding_all rfl) fun K hK => ?_
      | refine parVC_nil ?_
      | refine parEVC_nil ?_
      | refine genVC_nil ?_
      | (refine AWP.cond (by with_unfolding_all rfl) (fun h => ?_) (fun h => ?_); all_goals (try simp only [Bool.not_eq_true', Bool.not_eq_false'] at h); (all_goals try first | (exact absurd h Bool.false_ne_true) | (exact absurd h.symm Bool.false_ne_true) | (exact absurd h (by decide))))
      | refine AWP.skip ?_
      | refine AWP.ret ?_
      | refine AWP.block ?_
      | refine AWP.exit ?_
      | (refine ⟨fun h => ?_, fun h => ?_⟩ <;> (try simp only [Bool.not_eq_true', Bool.not_eq_false'] at h) <;> try simp only [h])
      | refine AWP.parR mixed (by kernel_rfl) fun K hK => ?_
      | refine ⟨(by kernel_rfl : depB _ _ _ = true), ?_⟩
      | refine Or.inl ?_)
    | (clear hK K))
  any_goals (first | exact fun _ h => (by cases h) | (refine fin0 ?_; simp only [nodeB, badFields, bodyB, kNum, kText, kKids, kKeys, kEnts, kKnown, hk, Int.reduceEq, Int.reduceLE, hlab, *, Bool.and_true, Bool.and_false, Bool.true_and, Bool.false_and, Bool.or_true, Bool.or_false, Bool.true_or, Bool.false_or, Bool.not_true, Bool.not_false, cond_true, cond_false, decide_true, decide_false]; done))
  refine AWP.lenB 1 5 rfl rfl fun hlen2 => ?_
  (try rw [List.length_map] at hlen2)
  refine AWP.range (S := Unit) (v.ents) encEnt (fun k s => (8, I .i64 (k : Nat)) :: []) (fun k s => []) [1] [1] (fun k s => goB entC (fun e => entB e v.num) none v.ents = goB entC (fun e => entB e v.num) (prevAt v.ents k) (v.ents.drop k)) (()) (by simp only [go_sem, zA, zB, zC, zD, zE, zF, zG, reduceCtorEq, zH, zI, zJ, zK, zL, encVal_eq]; exact Gh.to [] (by repeat (first | exact trivial | refine ⟨rfl, ?_⟩ | refine ⟨by (simp only [go_sem, zA, zB, zC, zD, zE, zF, zG, reduceCtorEq, zH, zI, zJ, zK, zL, List.length_append, List.length_map, List.length_cons, List.length_nil, Nat.zero_add]) <;> rfl, ?_⟩)) (by repeat (first | exact trivial | refine ⟨rfl, ?_⟩ | refine ⟨by (simp only [go_sem, zA, zB, zC, zD, zE, zF, zG, reduceCtorEq, zH, zI, zJ, zK, zL, List.length_append, List.length_map, List.length_cons, List.length_nil, Nat.zero_add]) <;> rfl, ?_⟩)) rfl rfl rfl) ?_ ?_ ?_
  · rfl
  · intro k s x hlt hx hx' hb hok
    simp only [go_sem, zA, zB, zC, zD, zE, zF, zG, reduceCtorEq, zH, zI, zJ, zK, zL]
    have heq := refEqual_c x.2.2 zeroVal
    rw [zeroVal_lit, encVal_eq] at heq
    rcases Nat.eq_zero_or_eq_succ_pred k with hk0 | hk0
    · rw [goB_zero hk0 hx] at hok
      rw [show entB x v.num = (decide ((x.1.length : Int) = v.num) && (!x.2.1 || isZeroB x.2.2)) from rfl] at hok
      have hp0 : decide ((0 : Int) < (k : Int)) = false := by rw [hk0]; rfl
      cases hl : decide ((x.1.length : Int) = v.num) <;> cases hf : x.2.1 <;> cases hz : decide (valC x.2.2 zeroVal = 0)
      all_goals (simp only [isZeroB, hl, hf, hz, Bool.and_true, Bool.and_false, Bool.true_and, Bool.false_and, Bool.or_true, Bool.or_false, Bool.true_or, Bool.false_or, Bool.not_true, Bool.not_false, cond_true, cond_false, decide_true, decide_false] at hok)
      all_goals
        repeat' (first
          | (simp only [go_sem, zA, zB, zC, zD, zE, zF, zG, reduceCtorEq, zH, zI, zJ, zK, zL, encVal_eq, encEnt_eq x, hk, List.length_map, hb, hz, hl, hf, hp0]; all_goals fail_if_success guard_target =ₛ False)
          | (with_reducible first
            | refine seqVC_stepN rfl fun K hK => ?_
            | refine seqVC_stepG rfl (by with_unfolding_all rfl) fun K hK => ?_
            | refine seqVC_nil ?_
            | (refine hK _ _ _ ?_; clear hK K)
            | (refine hK _ _ ?_; clear hK K)
            | (refine hK _ ?_; clear hK K)
            | refine AWP.seq fun K hK => ?_
            | refine AWP.seqR (by kernel_rfl) fun K hK => ?_
            | refine parVC_stepN rfl fun K hK => ?_
            | refine parVC_stepG rfl (by with_unfolding_all rfl) fun K hK => ?_
            | refine parEVC_stepN rfl fun K hK => ?_
            | refine parEVC_stepG rfl (by with_unfolding_all rfl) fun K hK => ?_
            | refine genVC_stepN rfl fun K hK => ?_
            | refine genVC_stepG rfl (by with_unfolding_all rfl) fun K hK => ?_
            | refine parVC_nil ?_
            | refine parEVC_nil ?_
            | refine genVC_nil ?_
            | (refine AWP.cond (by with_unfolding_all rfl) (fun h => ?_) (fun h => ?_); all_goals (try simp only [Bool.not_eq_true', Bool.not_eq_false'] at h); (all_goals try first | (exact absurd h Bool.false_ne_true) | (exact absurd h.symm Bool.false_ne_true) | (exact absurd h (by decide))))
            | refine AWP.skip ?_
            | refine AWP.ret ?_
            | refine AWP.block ?_
            | refine AWP.exit ?_
            | (refine ⟨fun h => ?_, fun h => ?_⟩ <;> (try simp only [Bool.not_eq_true', Bool.not_eq_false'] at h) <;> try simp only [h])
            | refine ⟨_, heq, ?_⟩
            | refine ⟨by omega, encEnt x, hx', ?_⟩
            | refine AWP.parR mixed (by kernel_rfl) fun K hK => ?_
            | refine ⟨(by kernel_rfl : depB _ _ _ = true), ?_⟩
            | refine Or.inl ?_)
          | (clear hK K))
      any_goals (first | exact fun _ h => (by cases h) | (refine fin0 ?_; first | (simp only [nodeB, badFields, bodyB, kNum, kText, kKids, kKeys, kEnts, kKnown, hk, Int.reduceEq, Int.reduceLE, hfun, hlab, *, hok, Bool.and_true, Bool.and_false, Bool.true_and, Bool.false_and, Bool.or_true, Bool.or_false, Bool.true_or, Bool.false_or, Bool.not_true, Bool.not_false, cond_true, cond_false, decide_true, decide_false]; done) | (simp only [nodeB, badFields, bodyB, kNum, kText, kKids, kKeys, kEnts, kKnown, hk, Int.reduceEq, Int.reduceLE, hfun, hlab, *, hok, Bool.and_true, Bool.and_false, Bool.true_and, Bool.false_and, Bool.or_true, Bool.or_false, Bool.true_or, Bool.false_or, Bool.not_true, Bool.not_false, cond_true, cond_false, decide_true, decide_false]; rfl)))
      all_goals (rw [wrap_succ hlt hlen2])
      all_goals (refine ⟨(), ?_, Gh.to [] (by repeat (first | exact trivial | refine ⟨rfl, ?_⟩ | refine ⟨by (simp only [go_sem, zA, zB, zC, zD, zE, zF, zG, reduceCtorEq, zH, zI, zJ, zK, zL, List.length_append, List.length_map, List.length_cons, List.length_nil, Nat.zero_add]) <;> rfl, ?_⟩)) (by repeat (first | exact trivial | refine ⟨rfl, ?_⟩ | refine ⟨by (simp only [go_sem, zA, zB, zC, zD, zE, zF, zG, reduceCtorEq, zH, zI, zJ, zK, zL, List.length_append, List.length_map, List.length_cons, List.length_nil, Nat.zero_add]) <;> rfl, ?_⟩)) rfl rfl rfl⟩)
      all_goals exact hok
    · obtain ⟨j, rfl⟩ : ∃ j, k = j + 1 := ⟨_, hk0⟩
      obtain ⟨y, hy, hy', _, _⟩ := at_lt (enc := encEnt) (show j < v.ents.length by omega)
      rw [goB_succ hy hx] at hok
      rw [show entB x v.num = (decide ((x.1.length : Int) = v.num) && (!x.2.1 || isZeroB x.2.2)) from rfl] at hok
      have hw : IntKind.i64.wrap (((j + 1 : Nat) : Int) - 1) = (j : Int) := by rw [w64 (by omega)]; omega
      have hp0 : decide ((0 : Int) < ((j + 1 : Nat) : Int)) = true := by simp only [decide_eq_true_eq]; omega
      have hcc := refEntries_c y x (fun a _ b => refCompare_c a b) (fun b => refCompare_c _ b)
      rw [encEnt_eq x] at hcc
      cases hl : decide ((x.1.length : Int) = v.num) <;> cases hf : x.2.1 <;> cases hz : decide (valC x.2.2 zeroVal = 0) <;> cases hc : decide (entC y x < 0)
      all_goals (simp only [isZeroB, hl, hf, hz, hc, Bool.and_true, Bool.and_false, Bool.true_and, Bool.false_and, Bool.or_true, Bool.or_false, Bool.true_or, Bool.false_or, Bool.not_true, Bool.not_false, cond_true, cond_false, decide_true, decide_false] at hok)
      all_goals (try rw [hf] at hcc)
      all_goals
        have hcg : decide (0 ≤ entC y x) = !decide (entC y x < 0) := by rw [← Bool.coe_iff_coe]; simp
        rw [hc] at hcg
      all_goals
        repeat' (first
          | (simp only [go_sem, zA, zB, zC, zD, zE, zF, zG, reduceCtorEq, zH, zI, zJ, zK, zL, encVal_eq, encEnt_eq x, hk, List.length_map, hb, hz, hl, hf, hp0, hw, hcg]; all_goals fail_if_success guard_target =ₛ False)
          | (with_reducible first
            | refine seqVC_stepN rfl fun K hK => ?_
            | refine seqVC_stepG rfl (by with_unfolding_all rfl) fun K hK => ?_
            | refine seqVC_nil ?_
            | (refine hK _ _ _ ?_; clear hK K)
            | (refine hK _ _ ?_; clear hK K)
            | (refine hK _ ?_; clear hK K)
            | refine AWP.seq fun K hK => ?_
            | refine AWP.seqR (by kernel_rfl) fun K hK => ?_
            | refine parVC_stepN rfl fun K hK => ?_
            | refine parVC_stepG rfl (by with_unfolding_all rfl) fun K hK => ?_
            | refine parEVC_stepN rfl fun K hK => ?_
            | refine parEVC_stepG rfl (by with_unfolding_all rfl) fun K hK => ?_
            | refine genVC_stepN rfl fun K hK => ?_
            | refine genVC_stepG rfl (by with_unfolding_all rfl) fun K hK => ?_
            | refine parVC_nil ?_
            | refine parEVC_nil ?_
            | refine genVC_nil ?_
            | (refine AWP.cond (by with_unfolding_all rfl) (fun h => ?_) (fun h => ?_); all_goals (try simp only [Bool.not_eq_true', Bool.not_eq_false'] at h); (all_goals try first | (exact absurd h Bool.false_ne_true) | (exact absurd h.symm Bool.false_ne_true) | (exact absurd h (by decide))))
            | refine AWP.skip ?_
            | refine AWP.ret ?_
            | refine AWP.block ?_
            | refine AWP.exit ?_
            | (refine ⟨fun h => ?_, fun h => ?_⟩ <;> (try simp only [Bool.not_eq_true', Bool.not_eq_false'] at h) <;> try simp only [h])
            | refine ⟨_, heq, ?_⟩
            | refine ⟨_, hcc, ?_⟩
            | refine ⟨by omega, encEnt x, hx', ?_⟩
            | refine ⟨by omega, encEnt y, hy', ?_⟩
            | refine AWP.parR mixed (by kernel_rfl) fun K hK => ?_
            | refine ⟨(by kernel_rfl : depB _ _ _ = true), ?_⟩
            | refine Or.inl ?_)
          | (clear hK K))
      any_goals (first | exact fun _ h => (by cases h) | (refine fin0 ?_; first | (simp only [nodeB, badFields, bodyB, kNum, kText, kKids, kKeys, kEnts, kKnown, hk, Int.reduceEq, Int.reduceLE, hfun, hlab, *, hok, Bool.and_true, Bool.and_false, Bool.true_and, Bool.false_and, Bool.or_true, Bool.or_false, Bool.true_or, Bool.false_or, Bool.not_true, Bool.not_false, cond_true, cond_false, decide_true, decide_false]; done) | (simp only [nodeB, badFields, bodyB, kNum, kText, kKids, kKeys, kEnts, kKnown, hk, Int.reduceEq, Int.reduceLE, hfun, hlab, *, hok, Bool.and_true, Bool.and_false, Bool.true_and, Bool.false_and, Bool.or_true, Bool.or_false, Bool.true_or, Bool.false_or, Bool.not_true, Bool.not_false, cond_true, cond_false, decide_true, decide_false]; rfl)))
      all_goals (rw [wrap_succ hlt hlen2])
      all_goals (refine ⟨(), ?_, Gh.to [] (by repeat (first | exact trivial | refine ⟨rfl, ?_⟩ | refine ⟨by (simp only [go_sem, zA, zB, zC, zD, zE, zF, zG, reduceCtorEq, zH, zI, zJ, zK, zL, List.length_append, List.length_map, List.length_cons, List.length_nil, Nat.zero_add]) <;> rfl, ?_⟩)) (by repeat (first | exact trivial | refine ⟨rfl, ?_⟩ | refine ⟨by (simp only [go_sem, zA, zB, zC, zD, zE, zF, zG, reduceCtorEq, zH, zI, zJ, zK, zL, List.length_append, List.length_map, List.length_cons, List.length_nil, Nat.zero_add]) <;> rfl, ?_⟩)) rfl rfl rfl⟩)
      all_goals exact hok
  intro s1 hb1 hok1
  simp only [go_sem, zA, zB, zC, zD, zE, zF, zG, reduceCtorEq, zH, zI, zJ, zK, zL]
  rw [goB_end] at hok1
  rw [hok1] at hfun
  repeat' (first
    | (simp only [go_sem, zA, zB, zC, zD, zE, zF, zG, reduceCtorEq, zH, zI, zJ, zK, zL, encVal_eq, hk, hb1, List.length_map]; all_goals fail_if_success guard_target =ₛ False)
    | (with_reducible first
      | refine seqVC_stepN rfl fun K hK => ?_
      | refine seqVC_stepG rfl (by with_unfolding_all rfl) fun K hK => ?_
      | refine seqVC_nil ?_
      | (refine hK _ _ _ ?_; clear hK K)
      | (refine hK _ _ ?_; clear hK K)
      | (refine hK _ ?_; clear hK K)
      | refine AWP.seq fun K hK => ?_
      | refine AWP.seqR (by kernel_rfl) fun K hK => ?_
      | refine parVC_stepN rfl fun K hK => ?_
      | refine parVC_stepG rfl (by with_unfolding_all rfl) fun K hK => ?_
      | refine parEVC_stepN rfl fun K hK => ?_
      | refine parEVC_stepG rfl (by with_unfolding_all rfl) fun K hK => ?_
      | refine genVC_stepN rfl fun K hK => ?_
      | refine genVC_stepG rfl (by with_unfolding_all rfl) fun K hK => ?_
      | refine parVC_nil ?_
      | refine parEVC_nil ?_
      | refine genVC_nil ?_
      | (refine AWP.cond (by with_unfolding_all rfl) (fun h => ?_) (fun h => ?_); all_goals (try simp only [Bool.not_eq_true', Bool.not_eq_false'] at h); (all_goals try first | (exact absurd h Bool.false_ne_true) | (exact absurd h.symm Bool.false_ne_true) | (exact absurd h (by decide))))
      | refine AWP.skip ?_
      | refine AWP.ret ?_
      | refine AWP.block ?_
      | refine AWP.exit ?_
      | (refine ⟨fun h => ?_, fun h => ?_⟩ <;> (try simp only [Bool.not_eq_true', Bool.not_eq_false'] at h) <;> try simp only [h])
      | refine AWP.parR mixed (by kernel_rfl) fun K hK => ?_
      | refine ⟨(by kernel_rfl : depB _ _ _ = true), ?_⟩
      | refine Or.inl ?_)
    | (clear hK K))
  all_goals (first | exact fun _ h => (by cases h) | (refine fin0 ?_; first | rfl | (simp only [nodeB, badFields, bodyB, kNum, kText, kKids, kKeys, kEnts, kKnown, hk, Int.reduceEq, Int.reduceLE, hlab, hfun, *, Bool.and_true, Bool.and_false, Bool.true_and, Bool.false_and, Bool.or_true, Bool.or_false, Bool.true_or, Bool.false_or, Bool.not_true, Bool.not_false, cond_true, cond_false, decide_true, decide_false]; done) | (simp only [nodeB, badFields, bodyB, kNum, kText, kKids, kKeys, kEnts, kKnown, hk, Int.reduceEq, Int.reduceLE, hlab, hfun, *, Bool.and_true, Bool.and_false, Bool.true_and, Bool.false_and, Bool.or_true, Bool.or_false, Bool.true_or, Bool.false_or, Bool.not_true, Bool.not_false, cond_true, cond_false, decide_true, decide_false]; rfl)))
end Go.Proofs.Ytmpfdejckbceiaa
set_option linter.unusedSimpArgs false
set_option linter.unusedVariables false
set_option maxRecDepth 20000
set_option maxHeartbeats 4000000
namespace Go.Proofs.Ytmpfdejckbceiaa
open Go Go.Sx
open Nat renaming reduceBEq → zA, reduceBNe → zB, reduceAdd → zC, reduceSub → zD, reduceMul → zE, reduceLeDiff → zF, reduceLT → zG, reduceEqDiff → zH
open Int renaming reduceToNat → zI, reduceLE → zJ, reduceLT → zK, reduceEq → zL
theorem node_c (v : Val) : PC Try.prog 83 [.st (encVal v)] (Bo (nodeB v)) := by
  by_cases h8 : v.kind = 8
  · exact node_8 v h8
  by_cases h9 : v.kind = 9
  · exact node_9 v h9
  exact node_17 v h8 h9
theorem bulk_kid {v p : Val} (h : p ∈ v.kids) : bulkV p < bulkV v := bulk_part (List.mem_append_left _ h)
theorem bulk_arg {v p : Val} {e : List Val × Bool × Val} (he : e ∈ v.ents) (h : p ∈ e.1) : bulkV p < bulkV v := by
  have h1 := bulkV_eq v; have h2 := bulkEs_mem he; have h3 := bulkE_eq e; have h4 := bulkVs_mem h; omega
theorem bulk_res {v : Val} {e : List Val × Bool × Val} (he : e ∈ v.ents) : bulkV e.2.2 < bulkV v := by
  have h1 := bulkV_eq v; have h2 := bulkEs_mem he; have h3 := bulkE_eq e; omega
theorem valid_c (v : Val) : PC Try.prog 50 [.st (encVal v)] (Bo (treeB v)) := by
  have ihk : ∀ p ∈ v.kids, PC Try.prog 50 [.st (encVal p)] (Bo (treeB p)) := fun p hp => valid_c p
  have iha : ∀ e ∈ v.ents, ∀ p ∈ e.1, PC Try.prog 50 [.st (encVal p)] (Bo (treeB p)) := fun e he p hp => valid_c p
  have ihr : ∀ e ∈ v.ents, PC Try.prog 50 [.st (encVal e.2.2)] (Bo (treeB e.2.2)) := fun e he => valid_c e.2.2
  have hn := node_c v
  rw [encVal_eq] at hn
  rw [treeB_kids]
  refine PCB.of_body Try.func50 rfl (by decide) Try.ntmps50 Try.results50 rfl rfl rfl ?_ rfl rfl
  cases hz : nodeB v
  ·
    repeat' (first
      | (simp only [go_sem, zA, zB, zC, zD, zE, zF, zG, reduceCtorEq, zH, zI, zJ, zK, zL, hz, encVal_eq v]; all_goals fail_if_success guard_target =ₛ False)
      | (with_reducible first
        | refine seqVC_stepN rfl fun K hK => ?_
        | refine seqVC_stepG rfl (by with_unfolding_all rfl) fun K hK => ?_
        | refine seqVC_nil ?_
        | (refine hK _ _ _ ?_; clear hK K)
        | (refine hK _ _ ?_; clear hK K)
        | (refine hK _ ?_; clear hK K)
        | refine AWP.seq fun K hK => ?_
        | refine AWP.seqR (by kernel_rfl) fun K hK => ?_
        | (refine AWP.cond (by with_unfolding_all rfl) (fun h => ?_) (fun h => ?_); all_goals (try simp only [Bool.not_eq_true', Bool.not_eq_false'] at h); (all_goals try first | (exact absurd h Bool.false_ne_true) | (exact absurd h.symm Bool.false_ne_true) | (exact absurd h (by decide))))
        | refine AWP.skip ?_
        | refine AWP.ret ?_
        | refine AWP.block ?_
        | refine AWP.exit ?_
        | (refine ⟨fun h => ?_, fun h => ?_⟩ <;> (try simp only [Bool.not_eq_true', Bool.not_eq_false'] at h) <;> try simp only [h])
        | refine ⟨_, hn, ?_⟩
        | refine Or.inl ?_)
      | (clear hK K))
    all_goals (first | exact fun _ h => (by cases h) | (refine fin0 ?_; first | rfl | (simp only [hz, Bool.and_true, Bool.and_false, Bool.true_and, Bool.false_and, Bool.or_true, Bool.or_false, Bool.true_or, Bool.false_or, Bool.not_true, Bool.not_false, cond_true, cond_false, decide_true, decide_false]; done) | (simp only [hz, Bool.and_true, Bool.and_false, Bool.true_and, Bool.false_and, Bool.or_true, Bool.or_false, Bool.true_or, Bool.false_or, Bool.not_true, Bool.not_false, cond_true, cond_false, decide_true, decide_false]; rfl)))
  repeat' (first
    | (simp only [go_sem, zA, zB, zC, zD, zE, zF, zG, reduceCtorEq, zH, zI, zJ, zK, zL, hz, encVal_eq v, List.length_map]; all_goals fail_if_success guard_target =ₛ False)
    | (with_reducible first
      | refine seqVC_stepN rfl fun K hK => ?_
      | refine seqVC_stepG rfl (by with_unfolding_all rfl) fun K hK => ?_
      | refine seqVC_nil ?_
      | (refine hK _ _ _ ?_; clear hK K)
      | (refine hK _ _ ?_; clear hK K)
      | (refine hK _ ?_; clear hK K)
      | refine AWP.seq fun K hK => ?_
      | refine AWP.seqR (by kernel_rfl) fun K hK => ?_
      | (refine AWP.cond (by with_unfolding_all rfl) (fun h => ?_) (fun h => ?_); all_goals (try simp only [Bool.not_eq_true', Bool.not_eq_false'] at h); (all_goals try first | (exact absurd h Bool.false_ne_true) | (exact absurd h.symm Bool.false_ne_true) | (exact absurd h (by decide))))
      | refine AWP.skip ?_
      | refine AWP.ret ?_
      | refine AWP.block ?_
      | refine AWP.exit ?_
      | (refine ⟨fun h => ?_, fun h => ?_⟩ <;> (try simp only [Bool.not_eq_true', Bool.not_eq_false'] at h) <;> try simp only [h])
      | refine ⟨_, hn, ?_⟩
      | refine Or.inl ?_)
    | (clear hK K))
  refine AWP.lenB 1 3 rfl rfl fun hlen0 => ?_
  (try rw [List.length_map] at hlen0)
  refine AWP.range (S := Unit) (v.kids) encVal (fun k s => (3, I .i64 (k : Nat)) :: []) (fun k s => []) [1] [1] (fun k s => v.kids.all treeB = (v.kids.drop k).all treeB) (()) (by simp only [go_sem, zA, zB, zC, zD, zE, zF, zG, reduceCtorEq, zH, zI, zJ, zK, zL, encVal_eq]; exact Gh.to [] (by repeat (first | exact trivial | refine ⟨rfl, ?_⟩ | refine ⟨by (simp only [go_sem, zA, zB, zC, zD, zE, zF, zG, reduceCtorEq, zH, zI, zJ, zK, zL, List.length_append, List.length_map, List.length_cons, List.length_nil, Nat.zero_add]) <;> rfl, ?_⟩)) (by repeat (first | exact trivial | refine ⟨rfl, ?_⟩ | refine ⟨by (simp only [go_sem, zA, zB, zC, zD, zE, zF, zG, reduceCtorEq, zH, zI, zJ, zK, zL, List.length_append, List.length_map, List.length_cons, List.length_nil, Nat.zero_add]) <;> rfl, ?_⟩)) rfl rfl rfl) ?_ ?_ ?_
  · rfl
  · intro k s x hlt hx hx' hb hok
    simp only [go_sem, zA, zB, zC, zD, zE, zF, zG, reduceCtorEq, zH, zI, zJ, zK, zL]
    have hix := ihk x (List.mem_of_getElem? hx)
    rw [all_step hx] at hok
    cases hy : treeB x <;> simp only [hy, Bool.true_and, Bool.false_and] at hok
    ·
      repeat' (first
        | (simp only [go_sem, zA, zB, zC, zD, zE, zF, zG, reduceCtorEq, zH, zI, zJ, zK, zL, encVal_eq v, List.length_map, hb, hy]; all_goals fail_if_success guard_target =ₛ False)
        | (with_reducible first
          | refine seqVC_stepN rfl fun K hK => ?_
          | refine seqVC_stepG rfl (by with_unfolding_all rfl) fun K hK => ?_
          | refine seqVC_nil ?_
          | (refine hK _ _ _ ?_; clear hK K)
          | (refine hK _ _ ?_; clear hK K)
          | (refine hK _ ?_; clear hK K)
          | refine AWP.seq fun K hK => ?_
          | refine AWP.seqR (by kernel_rfl) fun K hK => ?_
          | (refine AWP.cond (by with_unfolding_all rfl) (fun h => ?_) (fun h => ?_); all_goals (try simp only [Bool.not_eq_true', Bool.not_eq_false'] at h); (all_goals try first | (exact absurd h Bool.false_ne_true) | (exact absurd h.symm Bool.false_ne_true) | (exact absurd h (by decide))))
          | refine AWP.skip ?_
          | refine AWP.ret ?_
          | refine AWP.block ?_
          | refine AWP.exit ?_
          | (refine ⟨fun h => ?_, fun h => ?_⟩ <;> (try simp only [Bool.not_eq_true', Bool.not_eq_false'] at h) <;> try simp only [h])
          | refine ⟨_, hix, ?_⟩
          | refine ⟨by omega, encVal x, hx', ?_⟩
          | refine Or.inl ?_)
        | (clear hK K))
      all_goals (first | exact fun _ h => (by cases h) | (refine fin0 ?_; first | rfl | (simp only [hok, hz, Bool.and_true, Bool.and_false, Bool.true_and, Bool.false_and, Bool.or_true, Bool.or_false, Bool.true_or, Bool.false_or, Bool.not_true, Bool.not_false, cond_true, cond_false, decide_true, decide_false]; done) | (simp only [hok, hz, Bool.and_true, Bool.and_false, Bool.true_and, Bool.false_and, Bool.or_true, Bool.or_false, Bool.true_or, Bool.false_or, Bool.not_true, Bool.not_false, cond_true, cond_false, decide_true, decide_false]; rfl)))
    ·
      repeat' (first
        | (simp only [go_sem, zA, zB, zC, zD, zE, zF, zG, reduceCtorEq, zH, zI, zJ, zK, zL, encVal_eq v, List.length_map, hb, hy]; all_goals fail_if_success guard_target =ₛ False)
        | (with_reducible first
          | refine seqVC_stepN rfl fun K hK => ?_
          | refine seqVC_stepG rfl (by with_unfolding_all rfl) fun K hK => ?_
          | refine seqVC_nil ?_
          | (refine hK _ _ _ ?_; clear hK K)
          | (refine hK _ _ ?_; clear hK K)
          | (refine hK _ ?_; clear hK K)
          | refine AWP.seq fun K hK => ?_
          | refine AWP.seqR (by kernel_rfl) fun K hK => ?_
          | (refine AWP.cond (by with_unfolding_all rfl) (fun h => ?_) (fun h => ?_); all_goals (try simp only [Bool.not_eq_true', Bool.not_eq_false'] at h); (all_goals try first | (exact absurd h Bool.false_ne_true) | (exact absurd h.symm Bool.false_ne_true) | (exact absurd h (by decide))))
          | refine AWP.skip ?_
          | refine AWP.ret ?_
          | refine AWP.block ?_
          | refine AWP.exit ?_
          | (refine ⟨fun h => ?_, fun h => ?_⟩ <;> (try simp only [Bool.not_eq_true', Bool.not_eq_false'] at h) <;> try simp only [h])
          | refine ⟨_, hix, ?_⟩
          | refine ⟨by omega, encVal x, hx', ?_⟩
          | refine Or.inl ?_)
        | (clear hK K))
      all_goals (rw [wrap_succ hlt hlen0])
      all_goals (refine ⟨(), ?_, Gh.to [] (by repeat (first | exact trivial | refine ⟨rfl, ?_⟩ | refine ⟨by (simp only [go_sem, zA, zB, zC, zD, zE, zF, zG, reduceCtorEq, zH, zI, zJ, zK, zL, List.length_append, List.length_map, List.length_cons, List.length_nil, Nat.zero_add]) <;> rfl, ?_⟩)) (by repeat (first | exact trivial | refine ⟨rfl, ?_⟩ | refine ⟨by (simp only [go_sem, zA, zB, zC, zD, zE, zF, zG, reduceCtorEq, zH, zI, zJ, zK, zL, List.length_append, List.length_map, List.length_cons, List.length_nil, Nat.zero_add]) <;> rfl, ?_⟩)) rfl rfl rfl⟩)
      all_goals exact hok
  intro s0 hb0 hok0
  simp only [go_sem, zA, zB, zC, zD, zE, zF, zG, reduceCtorEq, zH, zI, zJ, zK, zL]
  rw [all_end] at hok0
  repeat' (first
    | (simp only [go_sem, zA, zB, zC, zD, zE, zF, zG, reduceCtorEq, zH, zI, zJ, zK, zL, encVal_eq v, List.length_map, hb0]; all_goals fail_if_success guard_target =ₛ False)
    | (with_reducible first
      | refine seqVC_stepN rfl fun K hK => ?_
      | refine seqVC_stepG rfl (by with_unfolding_all rfl) fun K hK => ?_
      | refine seqVC_nil ?_
      | (refine hK _ _ _ ?_; clear hK K)
      | (refine hK _ _ ?_; clear hK K)
      | (refine hK _ ?_; clear hK K)
      | refine AWP.seq fun K hK => ?_
      | refine AWP.seqR (by kernel_rfl) fun K hK => ?_
      | (refine AWP.cond (by with_unfolding_all rfl) (fun h => ?_) (fun h => ?_); all_goals (try simp only [Bool.not_eq_true', Bool.not_eq_false'] at h); (all_goals try first | (exact absurd h Bool.false_ne_true) | (exact absurd h.symm Bool.false_ne_true) | (exact absurd h (by decide))))
      | refine AWP.skip ?_
      | refine AWP.ret ?_
      | refine AWP.block ?_
      | refine AWP.exit ?_
      | (refine ⟨fun h => ?_, fun h => ?_⟩ <;> (try simp only [Bool.not_eq_true', Bool.not_eq_false'] at h) <;> try simp only [h])
      | refine Or.inl ?_)
    | (clear hK K))
  refine AWP.lenB 1 5 rfl rfl fun hlen1 => ?_
  (try rw [List.length_map] at hlen1)
  refine AWP.range (S := Unit) (v.ents) encEnt (fun k s => (4, I .i64 (k : Nat)) :: []) (fun k s => []) [1] [1] (fun k s => v.ents.all treeE = (v.ents.drop k).all treeE) (()) (by simp only [go_sem, zA, zB, zC, zD, zE, zF, zG, reduceCtorEq, zH, zI, zJ, zK, zL, encVal_eq]; exact Gh.to [] (by repeat (first | exact trivial | refine ⟨rfl, ?_⟩ | refine ⟨by (simp only [go_sem, zA, zB, zC, zD, zE, zF, zG, reduceCtorEq, zH, zI, zJ, zK, zL, List.length_append, List.length_map, List.length_cons, List.length_nil, Nat.zero_add]) <;> rfl, ?_⟩)) (by repeat (first | exact trivial | refine ⟨rfl, ?_⟩ | refine ⟨by (simp only [go_sem, zA, zB, zC, zD, zE, zF, zG, reduceCtorEq, zH, zI, zJ, zK, zL, List.length_append, List.length_map, List.length_cons, List.length_nil, Nat.zero_add]) <;> rfl, ?_⟩)) rfl rfl rfl) ?_ ?_ ?_
  · rfl
  · intro k s x hlt hx hx' hb hok
    simp only [go_sem, zA, zB, zC, zD, zE, zF, zG, reduceCtorEq, zH, zI, zJ, zK, zL]
    rw [all_step hx] at hok
    have hem := List.mem_of_getElem? hx
    have hia := iha x hem
    have hir := ihr x hem
    rw [encVal_eq] at hir
    repeat' (first
      | (simp only [go_sem, zA, zB, zC, zD, zE, zF, zG, reduceCtorEq, zH, zI, zJ, zK, zL, encVal_eq v, encEnt_eq, List.length_map, hb]; all_goals fail_if_success guard_target =ₛ False)
      | (with_reducible first
        | refine seqVC_stepN rfl fun K hK => ?_
        | refine seqVC_stepG rfl (by with_unfolding_all rfl) fun K hK => ?_
        | refine seqVC_nil ?_
        | (refine hK _ _ _ ?_; clear hK K)
        | (refine hK _ _ ?_; clear hK K)
        | (refine hK _ ?_; clear hK K)
        | refine AWP.seq fun K hK => ?_
        | refine AWP.seqR (by kernel_rfl) fun K hK => ?_
        | (refine AWP.cond (by with_unfolding_all rfl) (fun h => ?_) (fun h => ?_); all_goals (try simp only [Bool.not_eq_true', Bool.not_eq_false'] at h); (all_goals try first | (exact absurd h Bool.false_ne_true) | (exact absurd h.symm Bool.false_ne_true) | (exact absurd h (by decide))))
        | refine AWP.skip ?_
        | refine AWP.ret ?_
        | refine AWP.block ?_
        | refine AWP.exit ?_
        | (refine ⟨fun h => ?_, fun h => ?_⟩ <;> (try simp only [Bool.not_eq_true', Bool.not_eq_false'] at h) <;> try simp only [h])
        | refine ⟨by omega, encEnt x, hx', ?_⟩
        | refine Or.inl ?_)
      | (clear hK K))
    refine AWP.lenB 5 0 rfl rfl fun hlen2 => ?_
    (try rw [List.length_map] at hlen2)
    refine AWP.range (S := Unit) (x.1) encVal (fun k s => (6, I .i64 (k : Nat)) :: []) (fun k s => []) [1, 4, 5] [1, 5] (fun k s => x.1.all treeB = (x.1.drop k).all treeB) (()) (by simp only [go_sem, zA, zB, zC, zD, zE, zF, zG, reduceCtorEq, zH, zI, zJ, zK, zL, encVal_eq, encEnt_eq]; exact Gh.to [] (by repeat (first | exact trivial | refine ⟨rfl, ?_⟩ | refine ⟨by (simp only [go_sem, zA, zB, zC, zD, zE, zF, zG, reduceCtorEq, zH, zI, zJ, zK, zL, List.length_append, List.length_map, List.length_cons, List.length_nil, Nat.zero_add]) <;> rfl, ?_⟩)) (by repeat (first | exact trivial | refine ⟨rfl, ?_⟩ | refine ⟨by (simp only [go_sem, zA, zB, zC, zD, zE, zF, zG, reduceCtorEq, zH, zI, zJ, zK, zL, List.length_append, List.length_map, List.length_cons, List.length_nil, Nat.zero_add]) <;> rfl, ?_⟩)) rfl rfl rfl) ?_ ?_ ?_
    · rfl
    · intro i s y hlti hy hy' hbi hoki
      simp only [go_sem, zA, zB, zC, zD, zE, zF, zG, reduceCtorEq, zH, zI, zJ, zK, zL]
      have hiy := hia y (List.mem_of_getElem? hy)
      rw [all_step hy] at hoki
      cases hc : treeB y <;> simp only [hc, Bool.true_and, Bool.false_and] at hoki
      ·
        repeat' (first
          | (simp only [go_sem, zA, zB, zC, zD, zE, zF, zG, reduceCtorEq, zH, zI, zJ, zK, zL, encVal_eq v, encEnt_eq, List.length_map, hbi, hc]; all_goals fail_if_success guard_target =ₛ False)
          | (with_reducible first
            | refine seqVC_stepN rfl fun K hK => ?_
            | refine seqVC_stepG rfl (by with_unfolding_all rfl) fun K hK => ?_
            | refine seqVC_nil ?_
            | (refine hK _ _ _ ?_; clear hK K)
            | (refine hK _ _ ?_; clear hK K)
            | (refine hK _ ?_; clear hK K)
            | refine AWP.seq fun K hK => ?_
            | refine AWP.seqR (by kernel_rfl) fun K hK => ?_
            | (refine AWP.cond (by with_unfolding_all rfl) (fun h => ?_) (fun h => ?_); all_goals (try simp only [Bool.not_eq_true', Bool.not_eq_false'] at h); (all_goals try first | (exact absurd h Bool.false_ne_true) | (exact absurd h.symm Bool.false_ne_true) | (exact absurd h (by decide))))
            | refine AWP.skip ?_
            | refine AWP.ret ?_
            | refine AWP.block ?_
            | refine AWP.exit ?_
            | (refine ⟨fun h => ?_, fun h => ?_⟩ <;> (try simp only [Bool.not_eq_true', Bool.not_eq_false'] at h) <;> try simp only [h])
            | refine ⟨_, hiy, ?_⟩
            | refine ⟨by omega, encVal y, hy', ?_⟩
            | refine Or.inl ?_)
          | (clear hK K))
        all_goals (first | exact fun _ h => (by cases h) | (refine fin0 ?_; first | rfl | (simp only [hok, hz, hok0, treeE, hoki, Bool.and_true, Bool.and_false, Bool.true_and, Bool.false_and, Bool.or_true, Bool.or_false, Bool.true_or, Bool.false_or, Bool.not_true, Bool.not_false, cond_true, cond_false, decide_true, decide_false]; done) | (simp only [hok, hz, hok0, treeE, hoki, Bool.and_true, Bool.and_false, Bool.true_and, Bool.false_and, Bool.or_true, Bool.or_false, Bool.true_or, Bool.false_or, Bool.not_true, Bool.not_false, cond_true, cond_false, decide_true, decide_false]; rfl)))
      ·
        repeat' (first
          | (simp only [go_sem, zA, zB, zC, zD, zE, zF, zG, reduceCtorEq, zH, zI, zJ, zK, zL, encVal_eq v, encEnt_eq, List.length_map, hbi, hc]; all_goals fail_if_success guard_target =ₛ False)
          | (with_reducible first
            | refine seqVC_stepN rfl fun K hK => ?_
            | refine seqVC_stepG rfl (by with_unfolding_all rfl) fun K hK => ?_
            | refine seqVC_nil ?_
            | (refine hK _ _ _ ?_; clear hK K)
            | (refine hK _ _ ?_; clear hK K)
            | (refine hK _ ?_; clear hK K)
            | refine AWP.seq fun K hK => ?_
            | refine AWP.seqR (by kernel_rfl) fun K hK => ?_
            | (refine AWP.cond (by with_unfolding_all rfl) (fun h => ?_) (fun h => ?_); all_goals (try simp only [Bool.not_eq_true', Bool.not_eq_false'] at h); (all_goals try first | (exact absurd h Bool.false_ne_true) | (exact absurd h.symm Bool.false_ne_true) | (exact absurd h (by decide))))
            | refine AWP.skip ?_
            | refine AWP.ret ?_
            | refine AWP.block ?_
            | refine AWP.exit ?_
            | (refine ⟨fun h => ?_, fun h => ?_⟩ <;> (try simp only [Bool.not_eq_true', Bool.not_eq_false'] at h) <;> try simp only [h])
            | refine ⟨_, hiy, ?_⟩
            | refine ⟨by omega, encVal y, hy', ?_⟩
            | refine Or.inl ?_)
          | (clear hK K))
        all_goals (rw [wrap_succ hlti hlen2])
        all_goals (refine ⟨(), ?_, Gh.to [] (by repeat (first | exact trivial | refine ⟨rfl, ?_⟩ | refine ⟨by (simp only [go_sem, zA, zB, zC, zD, zE, zF, zG, reduceCtorEq, zH, zI, zJ, zK, zL, List.length_append, List.length_map, List.length_cons, List.length_nil, Nat.zero_add]) <;> rfl, ?_⟩)) (by repeat (first | exact trivial | refine ⟨rfl, ?_⟩ | refine ⟨by (simp only [go_sem, zA, zB, zC, zD, zE, zF, zG, reduceCtorEq, zH, zI, zJ, zK, zL, List.length_append, List.length_map, List.length_cons, List.length_nil, Nat.zero_add]) <;> rfl, ?_⟩)) rfl rfl rfl⟩)
        all_goals exact hoki
    intro s2 hb2 hok2
    simp only [go_sem, zA, zB, zC, zD, zE, zF, zG, reduceCtorEq, zH, zI, zJ, zK, zL]
    rw [all_end] at hok2
    cases hf : x.2.1 <;> cases hr : treeB x.2.2
    all_goals (simp only [treeE, hok2, hf, hr, Bool.true_and, Bool.false_and, Bool.true_or, Bool.false_or] at hok)
    all_goals
      repeat' (first
        | (simp only [go_sem, zA, zB, zC, zD, zE, zF, zG, reduceCtorEq, zH, zI, zJ, zK, zL, encVal_eq, encEnt_eq, List.length_map, hb2, hf, hr]; all_goals fail_if_success guard_target =ₛ False)
        | (with_reducible first
          | refine seqVC_stepN rfl fun K hK => ?_
          | refine seqVC_stepG rfl (by with_unfolding_all rfl) fun K hK => ?_
          | refine seqVC_nil ?_
          | (refine hK _ _ _ ?_; clear hK K)
          | (refine hK _ _ ?_; clear hK K)
          | (refine hK _ ?_; clear hK K)
          | refine AWP.seq fun K hK => ?_
          | refine AWP.seqR (by kernel_rfl) fun K hK => ?_
          | (refine AWP.cond (by with_unfolding_all rfl) (fun h => ?_) (fun h => ?_); all_goals (try simp only [Bool.not_eq_true', Bool.not_eq_false'] at h); (all_goals try first | (exact absurd h Bool.false_ne_true) | (exact absurd h.symm Bool.false_ne_true) | (exact absurd h (by decide))))
          | refine AWP.skip ?_
          | refine AWP.ret ?_
          | refine AWP.block ?_
          | refine AWP.exit ?_
          | (refine ⟨fun h => ?_, fun h => ?_⟩ <;> (try simp only [Bool.not_eq_true', Bool.not_eq_false'] at h) <;> try simp only [h])
          | refine ⟨_, hir, ?_⟩
          | refine Or.inl ?_)
        | (clear hK K))
    any_goals (first | exact fun _ h => (by cases h) | (refine fin0 ?_; simp only [hok, hok0, hz, Bool.and_false, Bool.true_and, Bool.and_true]; done))
    all_goals (rw [wrap_succ hlt hlen1])
    all_goals (refine ⟨(), ?_, Gh.to [] (by repeat (first | exact trivial | refine ⟨rfl, ?_⟩ | refine ⟨by (simp only [go_sem, zA, zB, zC, zD, zE, zF, zG, reduceCtorEq, zH, zI, zJ, zK, zL, List.length_append, List.length_map, List.length_cons, List.length_nil, Nat.zero_add]) <;> rfl, ?_⟩)) (by repeat (first | exact trivial | refine ⟨rfl, ?_⟩ | refine ⟨by (simp only [go_sem, zA, zB, zC, zD, zE, zF, zG, reduceCtorEq, zH, zI, zJ, zK, zL, List.length_append, List.length_map, List.length_cons, List.length_nil, Nat.zero_add]) <;> rfl, ?_⟩)) rfl rfl rfl⟩)
    all_goals exact hok
  intro s1 hb1 hok1
  simp only [go_sem, zA, zB, zC, zD, zE, zF, zG, reduceCtorEq, zH, zI, zJ, zK, zL]
  rw [all_end] at hok1
  repeat' (first
    | (simp only [go_sem, zA, zB, zC, zD, zE, zF, zG, reduceCtorEq, zH, zI, zJ, zK, zL, encVal_eq v, List.length_map, hb1]; all_goals fail_if_success guard_target =ₛ False)
    | (with_reducible first
      | refine seqVC_stepN rfl fun K hK => ?_
      | refine seqVC_stepG rfl (by with_unfolding_all rfl) fun K hK => ?_
      | refine seqVC_nil ?_
      | (refine hK _ _ _ ?_; clear hK K)
      | (refine hK _ _ ?_; clear hK K)
      | (refine hK _ ?_; clear hK K)
      | refine AWP.seq fun K hK => ?_
      | refine AWP.seqR (by kernel_rfl) fun K hK => ?_
      | (refine AWP.cond (by with_unfolding_all rfl) (fun h => ?_) (fun h => ?_); all_goals (try simp only [Bool.not_eq_true', Bool.not_eq_false'] at h); (all_goals try first | (exact absurd h Bool.false_ne_true) | (exact absurd h.symm Bool.false_ne_true) | (exact absurd h (by decide))))
      | refine AWP.skip ?_
      | refine AWP.ret ?_
      | refine AWP.block ?_
      | refine AWP.exit ?_
      | (refine ⟨fun h => ?_, fun h => ?_⟩ <;> (try simp only [Bool.not_eq_true', Bool.not_eq_false'] at h) <;> try simp only [h])
      | refine Or.inl ?_)
    | (clear hK K))
  all_goals (first | exact fun _ h => (by cases h) | (refine fin0 ?_; first | rfl | (simp only [hok1, hok0, hz, Bool.and_true, Bool.and_false, Bool.true_and, Bool.false_and, Bool.or_true, Bool.or_false, Bool.true_or, Bool.false_or, Bool.not_true, Bool.not_false, cond_true, cond_false, decide_true, decide_false]; done) | (simp only [hok1, hok0, hz, Bool.and_true, Bool.and_false, Bool.true_and, Bool.false_and, Bool.or_true, Bool.or_false, Bool.true_or, Bool.false_or, Bool.not_true, Bool.not_false, cond_true, cond_false, decide_true, decide_false]; rfl)))
termination_by bulkV v
decreasing_by
  · exact bulk_kid hp
  · exact bulk_arg he hp
  · exact bulk_res he
end Go.Proofs.Ytmpfdejckbceiaa


namespace Go.Proofs.Ytmpfdejckbceiaa
open Go Go.Sx
abbrev In64 (a : Int) : Prop := -9223372036854775808 ≤ a ∧ a ≤ 9223372036854775807
theorem wrap64 (x : Int) : ∃ k : Int, IntKind.i64.wrap x = x + k * 18446744073709551616 ∧ In64 (IntKind.i64.wrap x) := by
  have h : IntKind.i64.wrap x = Int.bmod x 18446744073709551616 := by
    unfold IntKind.wrap
    simp [IntKind.signed, IntKind.bits]
    rw [Int.bmod_def]
    split <;> split <;> omega
  rw [h]
  refine ⟨-((x + 9223372036854775808) / 18446744073709551616), ?_, ?_⟩
  · rw [Int.bmod_def]; split <;> omega
  · rw [Int.bmod_def]; split <;> (constructor <;> omega)
theorem wrap_mod (x : Int) (a k : Int) (h : In64 a) (hx : x = a + k * 18446744073709551616) : IntKind.i64.wrap x = a := by
  obtain ⟨j, h1, h2⟩ := wrap64 x
  omega
theorem back (a b : Int) (ha : In64 a) : IntKind.i64.wrap (IntKind.i64.wrap (a.tdiv b * b) + a.tmod b) = a := by
  obtain ⟨j, h1, h2⟩ := wrap64 (a.tdiv b * b)
  refine wrap_mod _ a j ha ?_
  have := Int.mul_tdiv_add_tmod a b
  rw [Int.mul_comm] at this
  omega
end Go.Proofs.Ytmpfdejckbceiaa

set_option linter.unusedSimpArgs false
set_option linter.unusedVariables false
set_option maxRecDepth 20000
namespace Go.Proofs.Ytmpfdejckbceiaa
open Go Go.Sx
/-- what a datum without code shows -/
def Bare (d : Dat) : Prop := d.mod = [] ∧ d.version = 0 ∧ d.routine = 0 ∧ d.wrapped = false ∧ d.nodes = [] ∧ d.root = 0 ∧ d.inner = [] ∧ d.outer = []
inductive Good : Dat → Prop
  | mk (d : Dat) (hn : In64 d.num) (h1 : d.kids.length ≤ 1000) (h2 : d.keys.length ≤ 1000) (hf : d.kind ≠ 9 → Bare d) (hk : ∀ k ∈ d.kids, Good k) : Good d
theorem Good.num {d : Dat} (h : Good d) : In64 d.num := by cases h; assumption
theorem Good.kids {d : Dat} (h : Good d) : d.kids.length ≤ 1000 := by cases h; assumption
theorem Good.keys {d : Dat} (h : Good d) : d.keys.length ≤ 1000 := by cases h; assumption
theorem Good.kid {d : Dat} (h : Good d) : ∀ k ∈ d.kids, Good k := by cases h; assumption
theorem keyC_zero {a b : KeyD} : keyC a b = 0 ↔ a = b := by
  unfold keyC
  rw [chainC_zero, cmpI_zero, cmpB_zero]
  cases a; cases b; simp
theorem firstC_zero {α : Type} (f : α → α → Int) : ∀ (a b : List α), (∀ x ∈ a, ∀ y, f x y = 0 ↔ x = y) → a.length = b.length → (firstC f a b = 0 ↔ a = b)
  | [], [], _, _ => by simp [firstC]
  | [], _ :: _, _, h => by simp at h
  | _ :: _, [], _, h => by simp at h
  | x :: a, y :: b, hf, h => by
    have ih := firstC_zero f a b (fun x hx => hf x (by simp [hx])) (by simpa using h)
    have h0 := hf x (by simp) y
    simp only [firstC, List.cons.injEq]
    by_cases hz : f x y = 0
    · rw [hz]; simp only [decide_true, cond_true, ih, h0.1 hz, true_and]
    · simp only [decide_eq_false hz, cond_false]
      have : ¬ x = y := fun e => hz (h0.2 e)
      simp [hz, this]
theorem listCmp_zero {α : Type} (f : α → α → Int) (a b : List α) (hf : ∀ x ∈ a, ∀ y, f x y = 0 ↔ x = y) : listCmp f a b = 0 ↔ a = b := by
  unfold listCmp
  by_cases hl : a.length = b.length
  · have : cmpI a.length b.length = 0 := cmpI_zero.2 (by omega)
    simp only [this, decide_true, cond_true]
    exact firstC_zero f a b hf hl
  · have : ¬ cmpI a.length b.length = 0 := fun h => hl (by have := cmpI_zero.1 h; omega)
    rw [decide_eq_false this, cond_false]
    exact ⟨fun h => absurd h this, fun e => absurd (by rw [e]) hl⟩
theorem valC_zero : ∀ (a b : Val), valC a b = 0 ↔ a = b := by
  intro a
  induction a using WellFounded.induction (r := InvImage (· < ·) (SizeOf.sizeOf (α := Val))) (InvImage.wf _ Nat.lt_wfRel.wf) with
  | _ a ih =>
  intro b
  rw [valC_eq]
  have hk : ∀ x ∈ a.kids, ∀ y, valC x y = 0 ↔ x = y := fun x hx y => ih x (by
    show SizeOf.sizeOf x < SizeOf.sizeOf a
    cases a; simp only at hx; have := List.sizeOf_lt_of_mem hx; simp; omega) y
  have he : ∀ x ∈ a.ents, ∀ y, entC x y = 0 ↔ x = y := by
    intro x hx y
    have hsz : SizeOf.sizeOf x < SizeOf.sizeOf a := by
      cases a; simp only at hx; have := List.sizeOf_lt_of_mem hx; simp; omega
    rw [entC_eq, chainC_zero]
    obtain ⟨l, f, r⟩ := x
    obtain ⟨l', f', r'⟩ := y
    simp only at *
    have hl : ∀ x ∈ l, ∀ y, valC x y = 0 ↔ x = y := fun x hx y => ih x (by
      show SizeOf.sizeOf x < SizeOf.sizeOf a
      have := List.sizeOf_lt_of_mem hx; simp at hsz; omega) y
    have hr := ih r (by show SizeOf.sizeOf r < SizeOf.sizeOf a; simp at hsz; omega) r'
    rw [listCmp_zero valC l l' hl]
    cases f <;> cases f' <;> simp [hr]
  rw [chainC_zero, chainC_zero, chainC_zero, chainC_zero, chainC_zero, chainC_zero, cmpI_zero, cmpI_zero, cmpB_zero, listCmp_zero keyC _ _ (fun _ _ _ => keyC_zero), listCmp_zero valC _ _ hk, listCmp_zero entC _ _ he, listCmp_zero Lib.compareBytes _ _ (fun _ _ _ => cmpB_zero)]
  cases a; cases b
  simp only [Val.mk.injEq]
  constructor
  · rintro ⟨h1, h2, h3, h4, h5, h6, h7⟩; exact ⟨h1, h2, h3, h5, h4, h6, h7⟩
  · rintro ⟨h1, h2, h3, h4, h5, h6, h7⟩; exact ⟨h1, h2, h3, h5, h4, h6, h7⟩

structure GoodA (n : Nat) (a : PutA) : Prop where
  k : a.keys.length ≤ n
  d : a.kids.length ≤ n
  g : ∀ d ∈ a.kids, Good d
theorem GoodA.le {n m : Nat} {a : PutA} (h : GoodA n a) (hm : n ≤ m) : GoodA m a := ⟨by have := h.k; omega, by have := h.d; omega, h.g⟩
end Go.Proofs.Ytmpfdejckbceiaa
