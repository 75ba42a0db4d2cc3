/- A part of the proof: lemmas about the walk of the program and about plain integers and lists. No conditions beyond those that each lemma states. -/
import Derived.Test.YteobojeemflggaaGreatPv14
import Derived.Test.YteobojeemflggaaGreatPv7
import Derived.Test.YteobojeemflggaaGreatPv6
import Derived.Test.YteobojeemflggaaGreatPv5
import Derived.Test.YteobojeemflggaaGreatPv13
import Derived.Test.YteobojeemflggaaGreatPv9
import Derived.Test.YteobojeemflggaaGreatPv8
import Derived.WalkKit
import Derived.ProofKit
import Derived.Lib.SliceRun
set_option linter.unusedSimpArgs false
set_option linter.unusedVariables false
set_option maxRecDepth 20000
set_option maxHeartbeats 16000000
namespace Go.Proofs.YteobojeemflggaaGreat
open Go Go.Sx
open Nat renaming reduceBEq → zA, reduceBNe → zB, reduceAdd → zC, reduceSub → zD, reduceMul → zE, reduceLeDiff → zF, reduceLT → zG, reduceEqDiff → zH
open Int renaming reduceToNat → zI, reduceLE → zJ, reduceLT → zK, reduceEq → zL
open Bool renaming not_eq_true' → zM, not_eq_false' → zN
theorem matchP_eq (g : Pat) (v : Val) (m : ME) : matchP g v m = bif decide (g.kind = 1) then (true, m) else
    bif decide (g.kind = 2) then (true, putV g.text v m) else
    bif decide (g.kind = 10) then matchH g.kids v (putV g.text v m) else
    bif decide (g.kind = 3) then (decide (v.kind = 1) && decide (v.num = g.num), m) else
    bif decide (g.kind = 4) then (decide (v.kind = 2) && decide (v.text = g.text), m) else
    bif decide (g.kind = 5) then (decide (v.kind = 3) && decide (v.text = g.text), m) else
    bif decide (g.kind = 6) then (decide (v.kind = 5), m) else
    bif decide (g.kind = 7) then (bif decide (v.kind = 6) && decide (g.kids.length = v.kids.length) then matchL g.kids v.kids m else (false, m)) else
    bif decide (g.kind = 8) then (bif decide (v.kind = 7) && decide (g.kids.length = v.kids.length) then matchL g.kids v.kids m else (false, m)) else
    bif decide (v.kind = 8) then matchM g.keys g.kids v m else (false, m) := by cases g; rw [matchP]
theorem vP_of {g : Pat} (h : treeP g = true) : vP g = true := by rw [treeP_eq, Bool.and_eq_true] at h; exact h.1
theorem treeP_kid {g k : Pat} (h : treeP g = true) (hk : k ∈ g.kids) : treeP k = true := by
  rw [treeP_eq, Bool.and_eq_true, List.all_eq_true] at h
  exact h.2 k hk
theorem treeB_kid {v k : Val} (h : treeB v = true) (hk : k ∈ v.kids) : treeB k = true := by
  rw [treeB_kids, Bool.and_eq_true, Bool.and_eq_true, List.all_eq_true] at h
  exact h.2.1 k hk
theorem treeB_map {v : Val} (h : treeB v = true) (hk : v.kind = 8) : v.keys.length = v.kids.length := by
  rw [treeB_kids, Bool.and_eq_true] at h
  have h1 := h.1
  unfold nodeB at h1
  simp only [Bool.and_eq_true] at h1
  have h2 := h1.2.2.2
  unfold bodyB at h2
  simp only [hk, Int.reduceEq, decide_true, decide_false, cond_true, cond_false] at h2
  unfold mapB at h2
  simp only [Bool.and_eq_true, decide_eq_true_eq] at h2
  omega
theorem kindsP {g : Pat} (h : vP g = true) : g.kind = 1 ∨ g.kind = 2 ∨ g.kind = 3 ∨ g.kind = 4 ∨ g.kind = 5 ∨ g.kind = 6 ∨ g.kind = 7 ∨ g.kind = 8 ∨ (g.kind = 9 ∧ g.keys.length = g.kids.length) ∨ (g.kind = 10 ∧ ∃ k, g.kids = [k]) := by
  have hb : bodyP g = true := by unfold vP at h; simp only [Bool.and_eq_true] at h; exact h.2
  by_cases h9 : g.kind = 9
  · have hm : mapP g = true := by
      unfold bodyP at hb
      simp only [h9, Int.reduceEq, decide_true, decide_false, Bool.or_false, cond_true, cond_false] at hb
      exact hb
    unfold mapP at hm
    simp only [Bool.and_eq_true, Bool.not_eq_true', Bool.or_eq_false_iff, Bool.not_eq_false', decide_eq_true_eq] at hm
    exact .inr (.inr (.inr (.inr (.inr (.inr (.inr (.inr (.inl ⟨h9, by omega⟩))))))))
  by_cases h10 : g.kind = 10
  · have hm : decide ((g.kids.length : Int) = 1) = true := by
      unfold bodyP at hb
      simp only [h10, Int.reduceEq, decide_true, decide_false, Bool.or_false, cond_true, cond_false, Bool.and_eq_true] at hb
      exact hb.1
    simp only [decide_eq_true_eq] at hm
    obtain ⟨k, hk⟩ := List.length_eq_one_iff.1 (show g.kids.length = 1 by omega)
    exact .inr (.inr (.inr (.inr (.inr (.inr (.inr (.inr (.inr ⟨h10, k, hk⟩))))))))
  by_cases hx : g.kind = 1 ∨ g.kind = 2 ∨ g.kind = 3 ∨ g.kind = 4 ∨ g.kind = 5 ∨ g.kind = 6 ∨ g.kind = 7 ∨ g.kind = 8
  · rcases hx with h | h | h | h | h | h | h | h <;> simp [h]
  · exfalso
    have e1 : decide (g.kind = 1) = false := by simp only [decide_eq_false_iff_not]; omega
    have e2 : decide (g.kind = 2) = false := by simp only [decide_eq_false_iff_not]; omega
    have e3 : decide (g.kind = 3) = false := by simp only [decide_eq_false_iff_not]; omega
    have e4 : decide (g.kind = 4) = false := by simp only [decide_eq_false_iff_not]; omega
    have e5 : decide (g.kind = 5) = false := by simp only [decide_eq_false_iff_not]; omega
    have e6 : decide (g.kind = 6) = false := by simp only [decide_eq_false_iff_not]; omega
    have e7 : decide (g.kind = 7) = false := by simp only [decide_eq_false_iff_not]; omega
    have e8 : decide (g.kind = 8) = false := by simp only [decide_eq_false_iff_not]; omega
    have e9 : decide (g.kind = 9) = false := by simp only [decide_eq_false_iff_not]; omega
    have e10 : decide (g.kind = 10) = false := by simp only [decide_eq_false_iff_not]; omega
    unfold bodyP at hb
    rw [e1, e2, e3, e4, e5, e6, e7, e8, e9, e10] at hb
    cases hb
theorem match_c (g : Pat) (v : Val) (hg : treeP g = true) (hv : treeB v = true) : MatchC g v := by
  have ih : ∀ k ∈ g.kids, ∀ w : Val, treeB w = true → MatchC k w := fun k hk w hw => match_c k w (treeP_kid hg hk) hw
  intro m
  rcases kindsP (vP_of hg) with hk | hk | hk | hk | hk | hk | hk | hk | ⟨hk, hkk⟩ | ⟨hk, k0, hk0⟩
  · -- 1
    refine PCB.of_body Tryz.func76 rfl (by decide) Tryz.ntmps76 Tryz.results76 rfl rfl rfl ?_ rfl rfl
    repeat' (first | (simp only [go_sem, zA, zB, zC, zD, zE, zF, zG, reduceCtorEq, zH, zI, zJ, zK, zL, pin, encP_eq g, encVal_eq v, hk, Int.reduceEq, List.length_map]; all_goals fail_if_success guard_target =ₛ False) | (with_reducible first | ((first | refine seqVC_stepN rfl ?_ | refine seqVC_stepG rfl (by with_unfolding_all rfl) ?_ | refine AWP.seq ?_ | refine AWP.seqR (by kernel_rfl) ?_ | refine parVC_stepN rfl ?_ | refine parVC_stepG rfl (by with_unfolding_all rfl) ?_ | refine parEVC_stepN rfl ?_ | refine parEVC_stepG rfl (by with_unfolding_all rfl) ?_ | refine genVC_stepN rfl ?_ | refine genVC_stepG rfl (by with_unfolding_all rfl) ?_); intro K hK) | ((first | refine hK _ _ _ ?_ | refine hK _ _ ?_ | refine hK _ ?_); clear hK K) | refine seqVC_nil ?_ | refine parVC_nil ?_ | refine parEVC_nil ?_ | refine genVC_nil ?_ | refine AWP.block ?_ | (refine AWP.cond (by with_unfolding_all rfl) ?_ ?_ <;> intro h <;> (try simp only [zM, zN] at h) <;> try exact absurd h (by decide)) | refine AWP.skip ?_ | refine AWP.ret ?_ | refine AWP.exit ?_ | (refine ⟨fun h => ?_, fun h => ?_⟩ <;> (try simp only [zM, zN] at h) <;> try simp only [h]) | refine AWP.parR mixed (by kernel_rfl) fun K hK => ?_ | refine ⟨(by kernel_rfl : depB _ _ _ = true), ?_⟩ | refine Or.inl ?_) | (clear hK K))
    all_goals (rw [matchP_eq, hk]; simp only [Int.reduceEq, zb, decide_true, decide_false, cond_true, cond_false, *]; (try refine ⟨by first | trivial | rfl, ?_⟩); intro q hq; simp only [List.mem_singleton] at hq; subst hq; simp)
  ·
    refine PCB.of_body Tryz.func76 rfl (by decide) Tryz.ntmps76 Tryz.results76 rfl rfl rfl ?_ rfl rfl
    repeat' (first | (simp only [go_sem, zA, zB, zC, zD, zE, zF, zG, reduceCtorEq, zH, zI, zJ, zK, zL, pin, encP_eq g, hk, Int.reduceEq, List.length_map, putA_enc]; all_goals fail_if_success guard_target =ₛ False) | (with_reducible first | ((first | refine seqVC_stepN rfl ?_ | refine seqVC_stepG rfl (by with_unfolding_all rfl) ?_ | refine AWP.seq ?_ | refine AWP.seqR (by kernel_rfl) ?_ | refine parVC_stepN rfl ?_ | refine parVC_stepG rfl (by with_unfolding_all rfl) ?_ | refine parEVC_stepN rfl ?_ | refine parEVC_stepG rfl (by with_unfolding_all rfl) ?_ | refine genVC_stepN rfl ?_ | refine genVC_stepG rfl (by with_unfolding_all rfl) ?_); intro K hK) | ((first | refine hK _ _ _ ?_ | refine hK _ _ ?_ | refine hK _ ?_); clear hK K) | refine seqVC_nil ?_ | refine parVC_nil ?_ | refine parEVC_nil ?_ | refine genVC_nil ?_ | refine AWP.block ?_ | (refine AWP.cond (by with_unfolding_all rfl) ?_ ?_ <;> intro h <;> (try simp only [zM, zN] at h) <;> try exact absurd h (by decide)) | refine AWP.skip ?_ | refine AWP.ret ?_ | refine AWP.exit ?_ | (refine ⟨fun h => ?_, fun h => ?_⟩ <;> (try simp only [zM, zN] at h) <;> try simp only [h]) | refine AWP.parR mixed (by kernel_rfl) fun K hK => ?_ | refine ⟨(by kernel_rfl : depB _ _ _ = true), ?_⟩ | refine Or.inl ?_) | (clear hK K))
    all_goals (rw [matchP_eq, hk]; simp only [Int.reduceEq, zb, decide_true, decide_false, cond_true, cond_false, *]; (try refine ⟨by first | trivial | rfl, ?_⟩); intro q hq; simp only [List.mem_singleton] at hq; subst hq; simp)
  · -- 3
    refine PCB.of_body Tryz.func76 rfl (by decide) Tryz.ntmps76 Tryz.results76 rfl rfl rfl ?_ rfl rfl
    repeat' (first | (simp only [go_sem, zA, zB, zC, zD, zE, zF, zG, reduceCtorEq, zH, zI, zJ, zK, zL, pin, encP_eq g, encVal_eq v, hk, Int.reduceEq, List.length_map]; all_goals fail_if_success guard_target =ₛ False) | (with_reducible first | ((first | refine seqVC_stepN rfl ?_ | refine seqVC_stepG rfl (by with_unfolding_all rfl) ?_ | refine AWP.seq ?_ | refine AWP.seqR (by kernel_rfl) ?_ | refine parVC_stepN rfl ?_ | refine parVC_stepG rfl (by with_unfolding_all rfl) ?_ | refine parEVC_stepN rfl ?_ | refine parEVC_stepG rfl (by with_unfolding_all rfl) ?_ | refine genVC_stepN rfl ?_ | refine genVC_stepG rfl (by with_unfolding_all rfl) ?_); intro K hK) | ((first | refine hK _ _ _ ?_ | refine hK _ _ ?_ | refine hK _ ?_); clear hK K) | refine seqVC_nil ?_ | refine parVC_nil ?_ | refine parEVC_nil ?_ | refine genVC_nil ?_ | refine AWP.block ?_ | (refine AWP.cond (by with_unfolding_all rfl) ?_ ?_ <;> intro h <;> (try simp only [zM, zN] at h) <;> try exact absurd h (by decide)) | refine AWP.skip ?_ | refine AWP.ret ?_ | refine AWP.exit ?_ | (refine ⟨fun h => ?_, fun h => ?_⟩ <;> (try simp only [zM, zN] at h) <;> try simp only [h]) | refine AWP.parR mixed (by kernel_rfl) fun K hK => ?_ | refine ⟨(by kernel_rfl : depB _ _ _ = true), ?_⟩ | refine Or.inl ?_) | (clear hK K))
    all_goals (rw [matchP_eq, hk]; simp only [Int.reduceEq, zb, decide_true, decide_false, cond_true, cond_false, *]; (try refine ⟨by first | trivial | rfl, ?_⟩); intro q hq; simp only [List.mem_singleton] at hq; subst hq; simp)
  · -- 4
    refine PCB.of_body Tryz.func76 rfl (by decide) Tryz.ntmps76 Tryz.results76 rfl rfl rfl ?_ rfl rfl
    repeat' (first | (simp only [go_sem, zA, zB, zC, zD, zE, zF, zG, reduceCtorEq, zH, zI, zJ, zK, zL, pin, encP_eq g, encVal_eq v, hk, Int.reduceEq, List.length_map]; all_goals fail_if_success guard_target =ₛ False) | (with_reducible first | ((first | refine seqVC_stepN rfl ?_ | refine seqVC_stepG rfl (by with_unfolding_all rfl) ?_ | refine AWP.seq ?_ | refine AWP.seqR (by kernel_rfl) ?_ | refine parVC_stepN rfl ?_ | refine parVC_stepG rfl (by with_unfolding_all rfl) ?_ | refine parEVC_stepN rfl ?_ | refine parEVC_stepG rfl (by with_unfolding_all rfl) ?_ | refine genVC_stepN rfl ?_ | refine genVC_stepG rfl (by with_unfolding_all rfl) ?_); intro K hK) | ((first | refine hK _ _ _ ?_ | refine hK _ _ ?_ | refine hK _ ?_); clear hK K) | refine seqVC_nil ?_ | refine parVC_nil ?_ | refine parEVC_nil ?_ | refine genVC_nil ?_ | refine AWP.block ?_ | (refine AWP.cond (by with_unfolding_all rfl) ?_ ?_ <;> intro h <;> (try simp only [zM, zN] at h) <;> try exact absurd h (by decide)) | refine AWP.skip ?_ | refine AWP.ret ?_ | refine AWP.exit ?_ | (refine ⟨fun h => ?_, fun h => ?_⟩ <;> (try simp only [zM, zN] at h) <;> try simp only [h]) | refine AWP.parR mixed (by kernel_rfl) fun K hK => ?_ | refine ⟨(by kernel_rfl : depB _ _ _ = true), ?_⟩ | refine Or.inl ?_) | (clear hK K))
    all_goals (rw [matchP_eq, hk]; simp only [Int.reduceEq, zb, decide_true, decide_false, cond_true, cond_false, *]; (try refine ⟨by first | trivial | rfl, ?_⟩); intro q hq; simp only [List.mem_singleton] at hq; subst hq; simp)
  · -- 5
    refine PCB.of_body Tryz.func76 rfl (by decide) Tryz.ntmps76 Tryz.results76 rfl rfl rfl ?_ rfl rfl
    repeat' (first | (simp only [go_sem, zA, zB, zC, zD, zE, zF, zG, reduceCtorEq, zH, zI, zJ, zK, zL, pin, encP_eq g, encVal_eq v, hk, Int.reduceEq, List.length_map]; all_goals fail_if_success guard_target =ₛ False) | (with_reducible first | ((first | refine seqVC_stepN rfl ?_ | refine seqVC_stepG rfl (by with_unfolding_all rfl) ?_ | refine AWP.seq ?_ | refine AWP.seqR (by kernel_rfl) ?_ | refine parVC_stepN rfl ?_ | refine parVC_stepG rfl (by with_unfolding_all rfl) ?_ | refine parEVC_stepN rfl ?_ | refine parEVC_stepG rfl (by with_unfolding_all rfl) ?_ | refine genVC_stepN rfl ?_ | refine genVC_stepG rfl (by with_unfolding_all rfl) ?_); intro K hK) | ((first | refine hK _ _ _ ?_ | refine hK _ _ ?_ | refine hK _ ?_); clear hK K) | refine seqVC_nil ?_ | refine parVC_nil ?_ | refine parEVC_nil ?_ | refine genVC_nil ?_ | refine AWP.block ?_ | (refine AWP.cond (by with_unfolding_all rfl) ?_ ?_ <;> intro h <;> (try simp only [zM, zN] at h) <;> try exact absurd h (by decide)) | refine AWP.skip ?_ | refine AWP.ret ?_ | refine AWP.exit ?_ | (refine ⟨fun h => ?_, fun h => ?_⟩ <;> (try simp only [zM, zN] at h) <;> try simp only [h]) | refine AWP.parR mixed (by kernel_rfl) fun K hK => ?_ | refine ⟨(by kernel_rfl : depB _ _ _ = true), ?_⟩ | refine Or.inl ?_) | (clear hK K))
    all_goals (rw [matchP_eq, hk]; simp only [Int.reduceEq, zb, decide_true, decide_false, cond_true, cond_false, *]; (try refine ⟨by first | trivial | rfl, ?_⟩); intro q hq; simp only [List.mem_singleton] at hq; subst hq; simp)
  · -- 6
    refine PCB.of_body Tryz.func76 rfl (by decide) Tryz.ntmps76 Tryz.results76 rfl rfl rfl ?_ rfl rfl
    repeat' (first | (simp only [go_sem, zA, zB, zC, zD, zE, zF, zG, reduceCtorEq, zH, zI, zJ, zK, zL, pin, encP_eq g, encVal_eq v, hk, Int.reduceEq, List.length_map]; all_goals fail_if_success guard_target =ₛ False) | (with_reducible first | ((first | refine seqVC_stepN rfl ?_ | refine seqVC_stepG rfl (by with_unfolding_all rfl) ?_ | refine AWP.seq ?_ | refine AWP.seqR (by kernel_rfl) ?_ | refine parVC_stepN rfl ?_ | refine parVC_stepG rfl (by with_unfolding_all rfl) ?_ | refine parEVC_stepN rfl ?_ | refine parEVC_stepG rfl (by with_unfolding_all rfl) ?_ | refine genVC_stepN rfl ?_ | refine genVC_stepG rfl (by with_unfolding_all rfl) ?_); intro K hK) | ((first | refine hK _ _ _ ?_ | refine hK _ _ ?_ | refine hK _ ?_); clear hK K) | refine seqVC_nil ?_ | refine parVC_nil ?_ | refine parEVC_nil ?_ | refine genVC_nil ?_ | refine AWP.block ?_ | (refine AWP.cond (by with_unfolding_all rfl) ?_ ?_ <;> intro h <;> (try simp only [zM, zN] at h) <;> try exact absurd h (by decide)) | refine AWP.skip ?_ | refine AWP.ret ?_ | refine AWP.exit ?_ | (refine ⟨fun h => ?_, fun h => ?_⟩ <;> (try simp only [zM, zN] at h) <;> try simp only [h]) | refine AWP.parR mixed (by kernel_rfl) fun K hK => ?_ | refine ⟨(by kernel_rfl : depB _ _ _ = true), ?_⟩ | refine Or.inl ?_) | (clear hK K))
    all_goals (rw [matchP_eq, hk]; simp only [Int.reduceEq, zb, decide_true, decide_false, cond_true, cond_false, *]; (try refine ⟨by first | trivial | rfl, ?_⟩); intro q hq; simp only [List.mem_singleton] at hq; subst hq; simp)
  · have hal := matchAll_c g.kids v.kids m (fun k hk w hw => ih k hk w (treeB_kid hv hw))
    rw [matchP_eq, hk]
    cases hz : decide (v.kind = 6) <;> simp only [Int.reduceEq, zb, decide_true, decide_false, cond_true, cond_false, Bool.true_and, Bool.false_and]
    ·
      refine PCB.of_body Tryz.func76 rfl (by decide) Tryz.ntmps76 Tryz.results76 rfl rfl rfl ?_ rfl rfl
      repeat' (first | (simp only [go_sem, zA, zB, zC, zD, zE, zF, zG, reduceCtorEq, zH, zI, zJ, zK, zL, pin, encP_eq g, encVal_eq v, hk, hz, Int.reduceEq, List.length_map]; all_goals fail_if_success guard_target =ₛ False) | (with_reducible first | ((first | refine seqVC_stepN rfl ?_ | refine seqVC_stepG rfl (by with_unfolding_all rfl) ?_ | refine AWP.seq ?_ | refine AWP.seqR (by kernel_rfl) ?_ | refine parVC_stepN rfl ?_ | refine parVC_stepG rfl (by with_unfolding_all rfl) ?_ | refine parEVC_stepN rfl ?_ | refine parEVC_stepG rfl (by with_unfolding_all rfl) ?_ | refine genVC_stepN rfl ?_ | refine genVC_stepG rfl (by with_unfolding_all rfl) ?_); intro K hK) | ((first | refine hK _ _ _ ?_ | refine hK _ _ ?_ | refine hK _ ?_); clear hK K) | refine seqVC_nil ?_ | refine parVC_nil ?_ | refine parEVC_nil ?_ | refine genVC_nil ?_ | refine AWP.block ?_ | (refine AWP.cond (by with_unfolding_all rfl) ?_ ?_ <;> intro h <;> (try simp only [zM, zN] at h) <;> try exact absurd h (by decide)) | refine AWP.skip ?_ | refine AWP.ret ?_ | refine AWP.exit ?_ | (refine ⟨fun h => ?_, fun h => ?_⟩ <;> (try simp only [zM, zN] at h) <;> try simp only [h]) | refine AWP.parR mixed (by kernel_rfl) fun K hK => ?_ | refine ⟨(by kernel_rfl : depB _ _ _ = true), ?_⟩ | refine Or.inl ?_) | (clear hK K))
      all_goals ((try refine ⟨by first | trivial | rfl, ?_⟩); intro q hq; simp only [List.mem_singleton] at hq; subst hq; simp)
    ·
      refine PCB.of_body Tryz.func76 rfl (by decide) Tryz.ntmps76 Tryz.results76 rfl rfl rfl ?_ rfl rfl
      repeat' (first | (simp only [go_sem, zA, zB, zC, zD, zE, zF, zG, reduceCtorEq, zH, zI, zJ, zK, zL, pin, encP_eq g, encVal_eq v, hk, hz, Int.reduceEq, List.length_map]; all_goals fail_if_success guard_target =ₛ False) | (with_reducible first | ((first | refine seqVC_stepN rfl ?_ | refine seqVC_stepG rfl (by with_unfolding_all rfl) ?_ | refine AWP.seq ?_ | refine AWP.seqR (by kernel_rfl) ?_ | refine parVC_stepN rfl ?_ | refine parVC_stepG rfl (by with_unfolding_all rfl) ?_ | refine parEVC_stepN rfl ?_ | refine parEVC_stepG rfl (by with_unfolding_all rfl) ?_ | refine genVC_stepN rfl ?_ | refine genVC_stepG rfl (by with_unfolding_all rfl) ?_); intro K hK) | ((first | refine hK _ _ _ ?_ | refine hK _ _ ?_ | refine hK _ ?_); clear hK K) | refine seqVC_nil ?_ | refine parVC_nil ?_ | refine parEVC_nil ?_ | refine genVC_nil ?_ | refine AWP.block ?_ | (refine AWP.cond (by with_unfolding_all rfl) ?_ ?_ <;> intro h <;> (try simp only [zM, zN] at h) <;> try exact absurd h (by decide)) | refine AWP.skip ?_ | refine AWP.ret ?_ | refine AWP.exit ?_ | (refine ⟨fun h => ?_, fun h => ?_⟩ <;> (try simp only [zM, zN] at h) <;> try simp only [h])) | (refine ⟨1000000, _, _, _, PCBk.mk 1000000 hal, rfl, ?_⟩) | (with_reducible first | (refine AWP.genR (id := 19) [9] [1000000] mixed (by kernel_rfl) fun K hK => ?_; simp only [Bx.outs, Bx.drop, cond_true, cond_false, Nat.reduceBEq, go_sem]) | refine AWP.parR mixed (by kernel_rfl) fun K hK => ?_ | refine ⟨(by kernel_rfl : depB _ _ _ = true), ?_⟩ | refine Or.inl ?_) | (clear hK K))
      all_goals ((try refine ⟨by first | trivial | rfl, ?_⟩); intro q hq; simp only [List.mem_singleton] at hq; subst hq; simp)
  · have hal := matchAll_c g.kids v.kids m (fun k hk w hw => ih k hk w (treeB_kid hv hw))
    rw [matchP_eq, hk]
    cases hz : decide (v.kind = 7) <;> simp only [Int.reduceEq, zb, decide_true, decide_false, cond_true, cond_false, Bool.true_and, Bool.false_and]
    ·
      refine PCB.of_body Tryz.func76 rfl (by decide) Tryz.ntmps76 Tryz.results76 rfl rfl rfl ?_ rfl rfl
      repeat' (first | (simp only [go_sem, zA, zB, zC, zD, zE, zF, zG, reduceCtorEq, zH, zI, zJ, zK, zL, pin, encP_eq g, encVal_eq v, hk, hz, Int.reduceEq, List.length_map]; all_goals fail_if_success guard_target =ₛ False) | (with_reducible first | ((first | refine seqVC_stepN rfl ?_ | refine seqVC_stepG rfl (by with_unfolding_all rfl) ?_ | refine AWP.seq ?_ | refine AWP.seqR (by kernel_rfl) ?_ | refine parVC_stepN rfl ?_ | refine parVC_stepG rfl (by with_unfolding_all rfl) ?_ | refine parEVC_stepN rfl ?_ | refine parEVC_stepG rfl (by with_unfolding_all rfl) ?_ | refine genVC_stepN rfl ?_ | refine genVC_stepG rfl (by with_unfolding_all rfl) ?_); intro K hK) | ((first | refine hK _ _ _ ?_ | refine hK _ _ ?_ | refine hK _ ?_); clear hK K) | refine seqVC_nil ?_ | refine parVC_nil ?_ | refine parEVC_nil ?_ | refine genVC_nil ?_ | refine AWP.block ?_ | (refine AWP.cond (by with_unfolding_all rfl) ?_ ?_ <;> intro h <;> (try simp only [zM, zN] at h) <;> try exact absurd h (by decide)) | refine AWP.skip ?_ | refine AWP.ret ?_ | refine AWP.exit ?_ | (refine ⟨fun h => ?_, fun h => ?_⟩ <;> (try simp only [zM, zN] at h) <;> try simp only [h]) | refine AWP.parR mixed (by kernel_rfl) fun K hK => ?_ | refine ⟨(by kernel_rfl : depB _ _ _ = true), ?_⟩ | refine Or.inl ?_) | (clear hK K))
      all_goals ((try refine ⟨by first | trivial | rfl, ?_⟩); intro q hq; simp only [List.mem_singleton] at hq; subst hq; simp)
    ·
      refine PCB.of_body Tryz.func76 rfl (by decide) Tryz.ntmps76 Tryz.results76 rfl rfl rfl ?_ rfl rfl
      repeat' (first | (simp only [go_sem, zA, zB, zC, zD, zE, zF, zG, reduceCtorEq, zH, zI, zJ, zK, zL, pin, encP_eq g, encVal_eq v, hk, hz, Int.reduceEq, List.length_map]; all_goals fail_if_success guard_target =ₛ False) | (with_reducible first | ((first | refine seqVC_stepN rfl ?_ | refine seqVC_stepG rfl (by with_unfolding_all rfl) ?_ | refine AWP.seq ?_ | refine AWP.seqR (by kernel_rfl) ?_ | refine parVC_stepN rfl ?_ | refine parVC_stepG rfl (by with_unfolding_all rfl) ?_ | refine parEVC_stepN rfl ?_ | refine parEVC_stepG rfl (by with_unfolding_all rfl) ?_ | refine genVC_stepN rfl ?_ | refine genVC_stepG rfl (by with_unfolding_all rfl) ?_); intro K hK) | ((first | refine hK _ _ _ ?_ | refine hK _ _ ?_ | refine hK _ ?_); clear hK K) | refine seqVC_nil ?_ | refine parVC_nil ?_ | refine parEVC_nil ?_ | refine genVC_nil ?_ | refine AWP.block ?_ | (refine AWP.cond (by with_unfolding_all rfl) ?_ ?_ <;> intro h <;> (try simp only [zM, zN] at h) <;> try exact absurd h (by decide)) | refine AWP.skip ?_ | refine AWP.ret ?_ | refine AWP.exit ?_ | (refine ⟨fun h => ?_, fun h => ?_⟩ <;> (try simp only [zM, zN] at h) <;> try simp only [h])) | (refine ⟨1000000, _, _, _, PCBk.mk 1000000 hal, rfl, ?_⟩) | (with_reducible first | (refine AWP.genR (id := 21) [9] [1000000] mixed (by kernel_rfl) fun K hK => ?_; simp only [Bx.outs, Bx.drop, cond_true, cond_false, Nat.reduceBEq, go_sem]) | refine AWP.parR mixed (by kernel_rfl) fun K hK => ?_ | refine ⟨(by kernel_rfl : depB _ _ _ = true), ?_⟩ | refine Or.inl ?_) | (clear hK K))
      all_goals ((try refine ⟨by first | trivial | rfl, ?_⟩); intro q hq; simp only [List.mem_singleton] at hq; subst hq; simp)
  · rw [matchP_eq, hk]
    cases hz : decide (v.kind = 8) <;> simp only [Int.reduceEq, zb, decide_true, decide_false, cond_true, cond_false]
    ·
      refine PCB.of_body Tryz.func76 rfl (by decide) Tryz.ntmps76 Tryz.results76 rfl rfl rfl ?_ rfl rfl
      repeat' (first | (simp only [go_sem, zA, zB, zC, zD, zE, zF, zG, reduceCtorEq, zH, zI, zJ, zK, zL, pin, encP_eq g, encVal_eq v, hk, hz, Int.reduceEq, List.length_map]; all_goals fail_if_success guard_target =ₛ False) | (with_reducible first | ((first | refine seqVC_stepN rfl ?_ | refine seqVC_stepG rfl (by with_unfolding_all rfl) ?_ | refine AWP.seq ?_ | refine AWP.seqR (by kernel_rfl) ?_ | refine parVC_stepN rfl ?_ | refine parVC_stepG rfl (by with_unfolding_all rfl) ?_ | refine parEVC_stepN rfl ?_ | refine parEVC_stepG rfl (by with_unfolding_all rfl) ?_ | refine genVC_stepN rfl ?_ | refine genVC_stepG rfl (by with_unfolding_all rfl) ?_); intro K hK) | ((first | refine hK _ _ _ ?_ | refine hK _ _ ?_ | refine hK _ ?_); clear hK K) | refine seqVC_nil ?_ | refine parVC_nil ?_ | refine parEVC_nil ?_ | refine genVC_nil ?_ | refine AWP.block ?_ | (refine AWP.cond (by with_unfolding_all rfl) ?_ ?_ <;> intro h <;> (try simp only [zM, zN] at h) <;> try exact absurd h (by decide)) | refine AWP.skip ?_ | refine AWP.ret ?_ | refine AWP.exit ?_ | (refine ⟨fun h => ?_, fun h => ?_⟩ <;> (try simp only [zM, zN] at h) <;> try simp only [h]) | refine AWP.parR mixed (by kernel_rfl) fun K hK => ?_ | refine ⟨(by kernel_rfl : depB _ _ _ = true), ?_⟩ | refine Or.inl ?_) | (clear hK K))
      all_goals ((try refine ⟨by first | trivial | rfl, ?_⟩); intro q hq; simp only [List.mem_singleton] at hq; subst hq; simp)
    · have hmm := matchMap_c g v m (by omega) (treeB_map hv (of_decide_eq_true hz)) (fun k hk w hw => ih k hk w (treeB_kid hv hw))
      rw [show Pt g = T.st (encP g) from rfl, show Vt v = T.st (encVal v) from rfl, encP_eq g, encVal_eq v, hk] at hmm
      refine PCB.of_body Tryz.func76 rfl (by decide) Tryz.ntmps76 Tryz.results76 rfl rfl rfl ?_ rfl rfl
      repeat' (first | (simp only [go_sem, zA, zB, zC, zD, zE, zF, zG, reduceCtorEq, zH, zI, zJ, zK, zL, pin, encP_eq g, encVal_eq v, hk, hz, Int.reduceEq, List.length_map]; all_goals fail_if_success guard_target =ₛ False) | (with_reducible first | ((first | refine seqVC_stepN rfl ?_ | refine seqVC_stepG rfl (by with_unfolding_all rfl) ?_ | refine AWP.seq ?_ | refine AWP.seqR (by kernel_rfl) ?_ | refine parVC_stepN rfl ?_ | refine parVC_stepG rfl (by with_unfolding_all rfl) ?_ | refine parEVC_stepN rfl ?_ | refine parEVC_stepG rfl (by with_unfolding_all rfl) ?_ | refine genVC_stepN rfl ?_ | refine genVC_stepG rfl (by with_unfolding_all rfl) ?_); intro K hK) | ((first | refine hK _ _ _ ?_ | refine hK _ _ ?_ | refine hK _ ?_); clear hK K) | refine seqVC_nil ?_ | refine parVC_nil ?_ | refine parEVC_nil ?_ | refine genVC_nil ?_ | refine AWP.block ?_ | (refine AWP.cond (by with_unfolding_all rfl) ?_ ?_ <;> intro h <;> (try simp only [zM, zN] at h) <;> try exact absurd h (by decide)) | refine AWP.skip ?_ | refine AWP.ret ?_ | refine AWP.exit ?_ | (refine ⟨fun h => ?_, fun h => ?_⟩ <;> (try simp only [zM, zN] at h) <;> try simp only [h])) | (refine ⟨1000000, _, _, _, PCBk.mk 1000000 hmm, rfl, ?_⟩) | (with_reducible first | refine AWP.parR mixed (by kernel_rfl) fun K hK => ?_ | refine ⟨(by kernel_rfl : depB _ _ _ = true), ?_⟩ | refine Or.inl ?_) | (clear hK K))
      all_goals ((try refine ⟨by first | trivial | rfl, ?_⟩); intro q hq; simp only [List.mem_singleton] at hq; subst hq; simp)
  · have h0 := ih k0 (by rw [hk0]; simp) v hv (putV g.text v m)
    have hk0' : (g.kids.map encP)[0]? = some (encP k0) := by rw [hk0]; rfl
    rw [matchP_eq, hk, hk0]
    simp only [Int.reduceEq, zb, decide_true, decide_false, cond_true, cond_false, matchH]
    refine PCB.of_body Tryz.func76 rfl (by decide) Tryz.ntmps76 Tryz.results76 rfl rfl rfl ?_ rfl rfl
    repeat' (first | (simp only [go_sem, zA, zB, zC, zD, zE, zF, zG, reduceCtorEq, zH, zI, zJ, zK, zL, pin, encP_eq g, hk, Int.reduceEq, List.length_map, putA_enc]; all_goals fail_if_success guard_target =ₛ False) | (with_reducible first | ((first | refine seqVC_stepN rfl ?_ | refine seqVC_stepG rfl (by with_unfolding_all rfl) ?_ | refine AWP.seq ?_ | refine AWP.seqR (by kernel_rfl) ?_ | refine parVC_stepN rfl ?_ | refine parVC_stepG rfl (by with_unfolding_all rfl) ?_ | refine parEVC_stepN rfl ?_ | refine parEVC_stepG rfl (by with_unfolding_all rfl) ?_ | refine genVC_stepN rfl ?_ | refine genVC_stepG rfl (by with_unfolding_all rfl) ?_); intro K hK) | ((first | refine hK _ _ _ ?_ | refine hK _ _ ?_ | refine hK _ ?_); clear hK K) | refine seqVC_nil ?_ | refine parVC_nil ?_ | refine parEVC_nil ?_ | refine genVC_nil ?_ | refine AWP.block ?_ | (refine AWP.cond (by with_unfolding_all rfl) ?_ ?_ <;> intro h <;> (try simp only [zM, zN] at h) <;> try exact absurd h (by decide)) | refine AWP.skip ?_ | refine AWP.ret ?_ | refine AWP.exit ?_ | (refine ⟨fun h => ?_, fun h => ?_⟩ <;> (try simp only [zM, zN] at h) <;> try simp only [h]) | refine ⟨encP k0, hk0', ?_⟩ | refine ⟨by omega, encP k0, hk0', ?_⟩) | (refine ⟨1000000, _, _, _, PCBk.mk 1000000 h0, rfl, ?_⟩) | (with_reducible first | (refine AWP.genR (id := 9) [6] [1000000] mixed (by kernel_rfl) fun K hK => ?_; simp only [Bx.outs, Bx.drop, cond_true, cond_false, Nat.reduceBEq, go_sem]) | refine AWP.parR mixed (by kernel_rfl) fun K hK => ?_ | refine ⟨(by kernel_rfl : depB _ _ _ = true), ?_⟩ | refine Or.inl ?_) | (clear hK K))
    all_goals ((try refine ⟨by first | trivial | rfl, ?_⟩); intro q hq; simp only [List.mem_singleton] at hq; subst hq; simp)
termination_by cntP g
decreasing_by exact cntP_kid hk
end Go.Proofs.YteobojeemflggaaGreat
set_option linter.unusedSimpArgs false
set_option linter.unusedVariables false
set_option maxRecDepth 20000
set_option maxHeartbeats 4000000
namespace Go.Proofs.YteobojeemflggaaGreat
open Go Go.Sx
open Nat renaming reduceBEq → zA, reduceBNe → zB, reduceAdd → zC, reduceSub → zD, reduceMul → zE, reduceLeDiff → zF, reduceLT → zG, reduceEqDiff → zH
open Int renaming reduceToNat → zI, reduceLE → zJ, reduceLT → zK, reduceEq → zL
open Bool renaming not_eq_true' → zM, not_eq_false' → zN
/-- no datum of it has a contract -/
inductive NoNodes : Dat → Prop
  | mk (d : Dat) (h : d.nodes = []) (hk : ∀ k ∈ d.kids, NoNodes k) : NoNodes d
theorem NoNodes.nodes {d : Dat} (h : NoNodes d) : d.nodes = [] := by cases h; assumption
theorem NoNodes.kid {d : Dat} (h : NoNodes d) : ∀ k ∈ d.kids, NoNodes k := by cases h; assumption
end Go.Proofs.YteobojeemflggaaGreat

set_option linter.unusedVariables false
set_option linter.unusedSimpArgs false
namespace Go.Sx
variable {P : Program} {n : Nat} {σ : AS} {Q : Exit → AS → Prop}
def fxOf (ear : List Nat) (fixB fixC : Bx) (i : Nat) : Bx := bif memN i ear then fixC else fixB
def genOpVC2 (P : Program) (all : List Oper) (es ear : List Nat) (fixB : Bx) (j0 : Nat) (fixC : Bx) (i : Nat) (gs : List (Nat × Nat)) (o : Oper) (env : Env) (B : Bx) (K' : List (Nat × Nat) → Env → Bx → Prop) : Prop :=
  bif memN i es then effVC P o env B fun t B' => bxSub B' fixB ∧ (bif decide (i < j0) then bxSub B' fixC else True) ∧ FreshOr all i t gs ∧ K' (gsNext i o gs) (putE env o.dst t) B'
  else pureVC P o env (fxOf ear fixB fixC i) fun t => FreshOr all i t gs ∧ K' gs (putE env o.dst t) B
attribute [go_sem] genOpVC2 fxOf
end Go.Sx
set_option linter.unusedSimpArgs false
set_option linter.unusedVariables false
set_option maxRecDepth 20000
set_option maxHeartbeats 4000000
namespace Go.Proofs.YteobojeemflggaaGreat
open Go Go.Sx
open Nat renaming reduceBEq → zA, reduceBNe → zB, reduceAdd → zC, reduceSub → zD, reduceMul → zE, reduceLeDiff → zF, reduceLT → zG, reduceEqDiff → zH
open Int renaming reduceToNat → zI, reduceLE → zJ, reduceLT → zK, reduceEq → zL
open Bool renaming not_eq_true' → zM, not_eq_false' → zN
/-- entries -/
abbrev Ent := List Val × Bool × Val
end Go.Proofs.YteobojeemflggaaGreat
set_option linter.unusedVariables false
set_option linter.unusedSimpArgs false
namespace Go.Sx
variable {P : Program} {n : Nat} {σ : AS} {Q : Exit → AS → Prop}
def vAppendM (P : Program) (j : Nat) (t1 t2 : TypeId) (s x : Option T) (K : T → Res → Prop) : Prop :=
  match bsT P t1, byT P t1 with
  | some (_, n), some (by_ + 1) => match srcRows n x with
    | some ys => notInt P t2 = true ∧ (match s with
      | some (.one (.dat (.nil _))) => (2 * ys.length + 192) * (by_ + 1) ≤ 281474976710656 ∧ K (.one (.own j ys.length)) (.row n ys)
      | _ => False)
    | none => False
  | _, _ => False
/-- what is to be shown of an operation that makes a row -/
def mkOp (P : Program) (o : Oper) (env : Env) (K : T → Res → Prop) : Prop :=
  match o.op with
  | .alloc e => (match zeroT P e with
    | some zs => K (.one (.ptr (dstN o) 0)) (.cells (zs.map .dat))
    | none => False)
  | .call { callee := .builtin .append, args := ⟨[s, x]⟩, argTypes := ⟨[t1, t2]⟩ } => vAppendM P (dstN o) t1 t2 (ev P env t1 s) (softO (ev P env t2 x)) K
  | .call { callee := .value f, args := args, argTypes := ts } =>
    match calleeT (ev P env 0 f), evs P env args.toList ts.toList with
    | some (g, caps), some us => ∃ r sz rows, PCN P g (us ++ caps) r (.row sz rows) ∧ K (r.ren fun _ => dstN o) (.row sz rows)
    | _, _ => False
  | _ => False
def genOpVCM (P : Program) (all : List Oper) (es : List Nat) (B0 : Bx) (i : Nat) (gs : List (Nat × Nat)) (o : Oper) (env : Env) (B : Bx) (K' : List (Nat × Nat) → Env → Bx → Prop) : Prop :=
  bif memN i es then mkOp P o env fun t r => Env.fresh (dstN o) env = true ∧ Bx.fresh (dstN o) B = true ∧ FreshOr all i t gs ∧ K' ((i, dstN o) :: gs) (putE env o.dst t) ((dstN o, r) :: B)
  else pureVC P o env B0 fun t => FreshOr all i t gs ∧ K' gs (putE env o.dst t) B
attribute [go_sem] genOpVCM mkOp vAppendM
end Go.Sx

set_option linter.unusedSimpArgs false
set_option linter.unusedVariables false
set_option maxRecDepth 20000
set_option maxHeartbeats 4000000
namespace Go.Proofs.YteobojeemflggaaGreat
open Go Go.Sx
open Nat renaming reduceBEq → zA, reduceBNe → zB, reduceAdd → zC, reduceSub → zD, reduceMul → zE, reduceLeDiff → zF, reduceLT → zG, reduceEqDiff → zH
open Int renaming reduceToNat → zI, reduceLE → zJ, reduceLT → zK, reduceEq → zL
open Bool renaming not_eq_true' → zM, not_eq_false' → zN
/-- the contract of Value at one height -/
def ValueC (f : Src → Val × Src) (h : Nat) : Prop := ∀ s : Src, s.ok → PCB Tryz.prog 11 [Sp pin, I .i64 h] [(pin, srcB s)] (Vt (f s).1) [(pin, srcB (f s).2)]
theorem ValueC.k {f : Src → Val × Src} {h : Nat} (H : ValueC f h) (k : Nat) (s : Src) (hs : s.ok) : PCBk Tryz.prog 11 [Sp k, I .i64 h] k (srcB s) (Vt (f s).1) (srcB (f s).2) := PCBk.mk k (H s hs)
/-- the contract of value at one height -/
def ValC (f : Src → Val × Src) (h : Nat) : Prop := ∀ s : Src, s.ok → PCB Tryz.prog 31 [Sp pin, I .i64 h] [(pin, srcB s)] (Vt (f s).1) [(pin, srcB (f s).2)]
theorem ValC.k {f : Src → Val × Src} {h : Nat} (H : ValC f h) (k : Nat) (s : Src) (hs : s.ok) : PCBk Tryz.prog 31 [Sp k, I .i64 h] k (srcB s) (Vt (f s).1) (srcB (f s).2) := PCBk.mk k (H s hs)
section
variable {f1 f0 : Src → Val × Src} {h : Nat}
end
end Go.Proofs.YteobojeemflggaaGreat

set_option linter.unusedVariables false
set_option linter.unusedSimpArgs false
namespace Go.Sx
variable {P : Program} {n : Nat} {σ : AS} {Q : Exit → AS → Prop}
def lastVC (P : Program) : List Oper → Env → Bx → (Env → Bx → Prop) → Prop
  | [o], env, B, K => (match o.op with
    | .store t x y => vStore P t (ev P env 0 x) (ev P env t y) B (fun B' => K (putE env o.dst undefT) B')
    | _ => False)
  | _, _, _, _ => False
attribute [go_sem] lastVC
end Go.Sx
namespace Go.Proofs.YteobojeemflggaaGreat
open Go Go.Sx
abbrev In64 (a : Int) : Prop := -9223372036854775808 ≤ a ∧ a ≤ 9223372036854775807
theorem wrap64 (x : Int) : ∃ k : Int, IntKind.i64.wrap x = x + k * 18446744073709551616 ∧ In64 (IntKind.i64.wrap x) := by
  have h : IntKind.i64.wrap x = Int.bmod x 18446744073709551616 := by
    unfold IntKind.wrap
    simp [IntKind.signed, IntKind.bits]
    rw [Int.bmod_def]
    split <;> split <;> omega
  rw [h]
  refine ⟨-((x + 9223372036854775808) / 18446744073709551616), ?_, ?_⟩
  · rw [Int.bmod_def]; split <;> omega
  · rw [Int.bmod_def]; split <;> (constructor <;> omega)
theorem wrap_mod (x : Int) (a k : Int) (h : In64 a) (hx : x = a + k * 18446744073709551616) : IntKind.i64.wrap x = a := by
  obtain ⟨j, h1, h2⟩ := wrap64 x
  omega
theorem back (a b : Int) (ha : In64 a) : IntKind.i64.wrap (IntKind.i64.wrap (a.tdiv b * b) + a.tmod b) = a := by
  obtain ⟨j, h1, h2⟩ := wrap64 (a.tdiv b * b)
  refine wrap_mod _ a j ha ?_
  have := Int.mul_tdiv_add_tmod a b
  rw [Int.mul_comm] at this
  omega
theorem bound (a b : Int) (h0 : b ≠ 0) : a.tmod b < (if b < 0 then -b else b) ∧ -(if b < 0 then -b else b) < a.tmod b := by
  have h := Int.natAbs_tmod a b
  have : (a.tmod b).natAbs < b.natAbs := by
    rw [h]; exact Nat.mod_lt _ (by omega)
  split <;> omega
end Go.Proofs.YteobojeemflggaaGreat

set_option linter.unusedSimpArgs false
set_option linter.unusedVariables false
set_option maxRecDepth 20000
namespace Go.Proofs.YteobojeemflggaaGreat
open Go Go.Sx
/-- what a datum without code shows -/
def Bare (d : Dat) : Prop := d.mod = [] ∧ d.version = 0 ∧ d.routine = 0 ∧ d.wrapped = false ∧ d.nodes = [] ∧ d.root = 0 ∧ d.inner = [] ∧ d.outer = []
inductive Good : Dat → Prop
  | mk (d : Dat) (hn : In64 d.num) (h1 : d.kids.length ≤ 1000) (h2 : d.keys.length ≤ 1000) (hf : d.kind ≠ 9 → Bare d) (hk : ∀ k ∈ d.kids, Good k) : Good d
theorem Good.num {d : Dat} (h : Good d) : In64 d.num := by cases h; assumption
theorem Good.kids {d : Dat} (h : Good d) : d.kids.length ≤ 1000 := by cases h; assumption
theorem Good.keys {d : Dat} (h : Good d) : d.keys.length ≤ 1000 := by cases h; assumption
theorem Good.kid {d : Dat} (h : Good d) : ∀ k ∈ d.kids, Good k := by cases h; assumption
structure GoodA (n : Nat) (a : PutA) : Prop where
  k : a.keys.length ≤ n
  d : a.kids.length ≤ n
  g : ∀ d ∈ a.kids, Good d
theorem GoodA.le {n m : Nat} {a : PutA} (h : GoodA n a) (hm : n ≤ m) : GoodA m a := ⟨by have := h.k; omega, by have := h.d; omega, h.g⟩
end Go.Proofs.YteobojeemflggaaGreat
set_option linter.unusedSimpArgs false
set_option linter.unusedVariables false
set_option maxRecDepth 20000
set_option maxHeartbeats 4000000
namespace Go.Proofs.YteobojeemflggaaGreat
open Go Go.Sx
open Nat renaming reduceBEq → zA, reduceBNe → zB, reduceAdd → zC, reduceSub → zD, reduceMul → zE, reduceLeDiff → zF, reduceLT → zG, reduceEqDiff → zH
open Int renaming reduceToNat → zI, reduceLE → zJ, reduceLT → zK, reduceEq → zL
open Bool renaming not_eq_true' → zM, not_eq_false' → zN
theorem cloneKeysL_c (l : List KeyD) (hl : l.length ≤ 100000000) : PC Tryz.prog 139 [.one (.dat (.sl 2 (l.map encKey)))] (.one (.dat (.sl 2 (l.map encKey)))) := by
  refine PCB.of_body Tryz.func139 rfl (by decide) Tryz.ntmps139 Tryz.results139 rfl rfl rfl ?_ rfl rfl
  refine AWP.ghQ ?_
  repeat' (first | ( refine AWP.nilR (e := 33) rfl (by decide) (by decide) rfl (fun hnil => ?_) ?_) | (simp only [go_sem, zA, zB, zC, zD, zE, zF, zG, reduceCtorEq, zH, zI, zJ, zK, zL, List.length_map]; all_goals fail_if_success guard_target =ₛ False) | (with_reducible first | ((first | refine seqVC_stepN rfl ?_ | refine AWP.seq ?_ | refine AWP.seqR (by kernel_rfl) ?_); intro K hK) | ((first | refine hK _ _ _ ?_ | refine hK _ _ ?_ | refine hK _ ?_); clear hK K) | refine seqVC_nil ?_ | refine AWP.block ?_ | (refine AWP.cond (by with_unfolding_all rfl) ?_ ?_ <;> intro h <;> (try simp only [zM, zN] at h) <;> try exact absurd h (by decide)) | refine AWP.skip ?_ | refine AWP.ret ?_ | refine AWP.exit ?_ | (refine Or.inr (show vBuildOwn _ 5 _ _ _ _ _ _ from ?_); unfold vBuildOwn; with_reducible refine Or.inr ?_; simp only [vBuildRow, go_sem, zA, zB, zC, zD, zE, zF, zG, reduceCtorEq, zH, zI, zJ, zK, zL, List.length_map]) | (refine ⟨(by first | omega | (simp only [List.length_append, List.length_map, List.length_take, List.length_drop, List.length_cons, List.length_nil, List.length_replicate]; omega) : _ ≤ _), ?_⟩) | refine ⟨by omega, by omega, ?_⟩ | refine Or.inl ?_) | (clear hK K))
  · refine ⟨_, Gh.refl _, ?_⟩
    simp only [go_sem, zA, zB, zC, zD, zE, zF, zG, reduceCtorEq, zH, zI, zJ, zK, zL]
    refine fin0 ?_
    rw [hnil]
  ·
    refine ⟨_, Gh.freeze 7 rfl rfl (by simp only [go_sem, zA, zB, zC, zD, zE, zF, zG, reduceCtorEq, zH, zI, zJ, zK, zL, List.length_map]) (by simp only [go_sem, zA, zB, zC, zD, zE, zF, zG, reduceCtorEq, zH, zI, zJ, zK, zL, List.length_map]), ?_⟩
    simp only [go_sem, zA, zB, zC, zD, zE, zF, zG, reduceCtorEq, zH, zI, zJ, zK, zL, List.length_map]
    all_goals (first | exact fun _ h => (by cases h) | refine fin0 ?_)
    all_goals rfl
end Go.Proofs.YteobojeemflggaaGreat
set_option linter.unusedSimpArgs false
set_option linter.unusedVariables false
set_option maxRecDepth 20000
set_option maxHeartbeats 16000000
namespace Go.Proofs.YteobojeemflggaaGreat
open Go Go.Sx
open Nat renaming reduceBEq → zA, reduceBNe → zB, reduceAdd → zC, reduceSub → zD, reduceMul → zE, reduceLeDiff → zF, reduceLT → zG, reduceEqDiff → zH
open Int renaming reduceToNat → zI, reduceLE → zJ, reduceLT → zK, reduceEq → zL
open Bool renaming not_eq_true' → zM, not_eq_false' → zN
theorem cloneStr_c (l : List (List UInt8)) (hl : l.length ≤ 100000000) : PC Tryz.prog 108 [SsP l] (SsP l) := by
  refine PCB.of_body Tryz.func108 rfl (by decide) Tryz.ntmps108 Tryz.results108 rfl rfl rfl ?_ rfl rfl
  refine AWP.ghQ ?_
  repeat' (first | ( refine AWP.nilR (e := 9) rfl (by decide) (by decide) rfl (fun hnil => ?_) ?_) | (simp only [go_sem, zA, zB, zC, zD, zE, zF, zG, reduceCtorEq, zH, zI, zJ, zK, zL, List.length_map]; all_goals fail_if_success guard_target =ₛ False) | (with_reducible first | ((first | refine seqVC_stepN rfl ?_ | refine AWP.seq ?_ | refine AWP.seqR (by kernel_rfl) ?_); intro K hK) | ((first | refine hK _ _ _ ?_ | refine hK _ _ ?_ | refine hK _ ?_); clear hK K) | refine seqVC_nil ?_ | refine AWP.block ?_ | (refine AWP.cond (by with_unfolding_all rfl) ?_ ?_ <;> intro h <;> (try simp only [zM, zN] at h) <;> try exact absurd h (by decide)) | refine AWP.skip ?_ | refine AWP.ret ?_ | refine AWP.exit ?_ | (refine Or.inr (show vBuildOwn _ 5 _ _ _ _ _ _ from ?_); unfold vBuildOwn; with_reducible refine Or.inr ?_; simp only [vBuildRow, go_sem, zA, zB, zC, zD, zE, zF, zG, reduceCtorEq, zH, zI, zJ, zK, zL, List.length_map]) | (refine ⟨(by first | omega | (simp only [List.length_append, List.length_map, List.length_take, List.length_drop, List.length_cons, List.length_nil, List.length_replicate]; omega) : _ ≤ _), ?_⟩) | refine ⟨by omega, by omega, ?_⟩ | refine Or.inl ?_) | (clear hK K))
  · refine ⟨_, Gh.refl _, ?_⟩
    simp only [go_sem, zA, zB, zC, zD, zE, zF, zG, reduceCtorEq, zH, zI, zJ, zK, zL]
    refine fin0 ?_
    show T.one (.dat (.sl 1 [])) = T.one (.dat (.sl 1 (l.map Sx.encStr)))
    rw [hnil]
  ·
    refine ⟨_, Gh.freeze 7 rfl rfl (by simp only [go_sem, zA, zB, zC, zD, zE, zF, zG, reduceCtorEq, zH, zI, zJ, zK, zL, List.length_map]) (by simp only [go_sem, zA, zB, zC, zD, zE, zF, zG, reduceCtorEq, zH, zI, zJ, zK, zL, List.length_map]), ?_⟩
    simp only [go_sem, zA, zB, zC, zD, zE, zF, zG, reduceCtorEq, zH, zI, zJ, zK, zL, List.length_map]
    all_goals (first | exact fun _ h => (by cases h) | refine fin0 ?_)
    all_goals rfl
theorem cloneStr_n (l : List (List UInt8)) (hl : l.length ≤ 100000000) : PCN Tryz.prog 108 [SsP l] (.one (.own 0 l.length)) (.row 1 (l.map Sx.encStr)) := by
  refine PCN.of_body 7 Tryz.func108 rfl (by decide) Tryz.ntmps108 Tryz.results108 rfl rfl ?_
  refine AWP.ghQ ?_
  repeat' (first | ( refine AWP.nilR (e := 9) rfl (by decide) (by decide) rfl (fun hnil => ?_) ?_) | (simp only [go_sem, zA, zB, zC, zD, zE, zF, zG, reduceCtorEq, zH, zI, zJ, zK, zL, List.length_map]; all_goals fail_if_success guard_target =ₛ False) | (with_reducible first | ((first | refine seqVC_stepN rfl ?_ | refine AWP.seq ?_ | refine AWP.seqR (by kernel_rfl) ?_); intro K hK) | ((first | refine hK _ _ _ ?_ | refine hK _ _ ?_ | refine hK _ ?_); clear hK K) | refine seqVC_nil ?_ | refine AWP.block ?_ | (refine AWP.cond (by with_unfolding_all rfl) ?_ ?_ <;> intro h <;> (try simp only [zM, zN] at h) <;> try exact absurd h (by decide)) | refine AWP.skip ?_ | refine AWP.ret ?_ | refine AWP.exit ?_ | (refine Or.inr (show vBuildOwn _ 5 _ _ _ _ _ _ from ?_); unfold vBuildOwn; with_reducible refine Or.inr ?_; simp only [vBuildRow, go_sem, zA, zB, zC, zD, zE, zF, zG, reduceCtorEq, zH, zI, zJ, zK, zL, List.length_map]) | refine ⟨(by omega : _ ≤ _), ?_⟩ | refine Or.inl ?_) | (clear hK K))
  · refine GhQ.step (Gh.nilrow 2 7 rfl rfl rfl rfl) ?_
    refine ⟨_, Gh.refl _, ?_⟩
    have : l = [] := by simpa using hnil
    subst this
    simp only [go_sem, zA, zB, zC, zD, zE, zF, zG, reduceCtorEq, zH, zI, zJ, zK, zL, List.map_nil, List.length_nil]
    first | exact ⟨rfl, fun x hx => hx⟩ | exact fun x hx => hx
  · refine ⟨_, Gh.refl _, ?_⟩
    simp only [go_sem, zA, zB, zC, zD, zE, zF, zG, reduceCtorEq, zH, zI, zJ, zK, zL, List.length_map]
    first | exact ⟨rfl, fun x hx => hx⟩ | exact fun x hx => hx
abbrev CloneC (v : Val) : Prop := PC Tryz.prog 107 [Vt v] (Vt v)
abbrev VsP (l : List Val) : T := .one (.dat (.sl 7 (l.map encVal)))
theorem val_snoc1 (l : List Val) (x : Val) : l.map encVal ++ [encVal x] = (l ++ [x]).map encVal := by simp
theorem ent_snoc1 (l : List Ent) (x : Ent) : l.map encEnt ++ [[.sl 7 (x.1.map encVal), .bool x.2.1, .int .i64 x.2.2.kind, .int .i64 x.2.2.num, .str x.2.2.text, .sl 7 (x.2.2.kids.map encVal), .sl 2 (x.2.2.keys.map encKey), .sl 9 (x.2.2.ents.map encEnt), .sl 1 (x.2.2.labels.map Sx.encStr)]] = (l ++ [x]).map encEnt := by
  rw [List.map_append, List.map_cons, List.map_nil, encEnt_eq x]
theorem cloneAll_c (l : List Val) (hl : l.length ≤ 100000000) (h : ∀ v ∈ l, CloneC v) : PC Tryz.prog 138 [VsP l] (VsP l) := by
  refine PCB.of_body Tryz.func138 rfl (by decide) Tryz.ntmps138 Tryz.results138 rfl rfl rfl ?_ rfl rfl
  refine AWP.ghQ ?_
  repeat' (first | (simp only [go_sem, zA, zB, zC, zD, zE, zF, zG, reduceCtorEq, zH, zI, zJ, zK, zL, List.length_map]; all_goals fail_if_success guard_target =ₛ False) | (with_reducible first | ((first | refine seqVC_stepN rfl ?_ | refine AWP.seq ?_ | refine AWP.seqR (by kernel_rfl) ?_); intro K hK) | ((first | refine hK _ _ _ ?_ | refine hK _ _ ?_ | refine hK _ ?_); clear hK K) | refine seqVC_nil ?_ | refine AWP.block ?_ | (refine AWP.cond (by with_unfolding_all rfl) ?_ ?_ <;> intro h <;> (try simp only [zM, zN] at h) <;> try exact absurd h (by decide)) | refine AWP.skip ?_ | refine AWP.ret ?_ | refine AWP.exit ?_ | refine Or.inl ?_) | (clear hK K))
  refine AWP.gh (Gh.nilrow 3 900 rfl rfl rfl rfl) ?_
  refine AWP.len 6 rfl fun hlen0 => ?_
  (try rw [List.length_map] at hlen0)
  refine AWP.range (S := List Val) (l) encVal (fun k s => (8, I .i64 (k : Nat)) :: [(3, .one (.own 900 s.length))]) (fun k s => [(900, .row 7 (s.map encVal))]) [6, 7] [] (fun k s => Is s (l.take k)) ([]) (by simp only [go_sem, zA, zB, zC, zD, zE, zF, zG, reduceCtorEq, zH, zI, zJ, zK, zL]; exact Gh.to [] (by repeat (first | exact trivial | refine ⟨rfl, ?_⟩ | refine ⟨by (simp only [go_sem, zA, zB, zC, zD, zE, zF, zG, reduceCtorEq, zH, zI, zJ, zK, zL, List.length_append, List.length_map, List.length_cons, List.length_nil, Nat.zero_add]) <;> rfl, ?_⟩)) (by repeat (first | exact trivial | refine ⟨rfl, ?_⟩ | refine ⟨by (simp only [go_sem, zA, zB, zC, zD, zE, zF, zG, reduceCtorEq, zH, zI, zJ, zK, zL, List.length_append, List.length_map, List.length_cons, List.length_nil, Nat.zero_add]) <;> rfl, ?_⟩)) rfl rfl rfl) ?_ ?_ ?_
  · simp [Is]
  · intro k s x hlt hx hx' hb hok
    simp only [go_sem, zA, zB, zC, zD, zE, zF, zG, reduceCtorEq, zH, zI, zJ, zK, zL]
    have hix := h x (List.mem_of_getElem? hx)
    have hsl : s.length ≤ k := by rw [show s = _ from hok, List.length_take]; omega
    repeat' (first | (simp only [go_sem, zA, zB, zC, zD, zE, zF, zG, reduceCtorEq, zH, zI, zJ, zK, zL, List.length_map, hb, val_snoc1]; all_goals fail_if_success guard_target =ₛ False) | (with_reducible first | ((first | refine seqVC_stepN rfl ?_ | refine AWP.seq ?_ | refine AWP.seqR (by kernel_rfl) ?_); intro K hK) | ((first | refine hK _ _ _ ?_ | refine hK _ _ ?_ | refine hK _ ?_); clear hK K) | refine seqVC_nil ?_ | refine AWP.block ?_ | (refine AWP.cond (by with_unfolding_all rfl) ?_ ?_ <;> intro h <;> (try simp only [zM, zN] at h) <;> try exact absurd h (by decide)) | refine AWP.skip ?_ | refine AWP.ret ?_ | refine AWP.exit ?_ | refine ⟨_, hix, ?_⟩ | refine ⟨by omega, encVal x, hx', ?_⟩ | (refine ⟨(by first | omega | (simp only [List.length_append, List.length_map, List.length_take, List.length_drop, List.length_cons, List.length_nil, List.length_replicate]; omega) : _ ≤ _), ?_⟩) | refine ⟨by omega, by omega, ?_⟩ | refine Or.inl ?_) | (clear hK K))
    all_goals (rw [wrap_succ hlt hlen0])
    all_goals (refine ⟨s ++ [x], ?_, Gh.to [(900, 16)] (by repeat (first | exact trivial | refine ⟨rfl, ?_⟩ | refine ⟨by (simp only [go_sem, zA, zB, zC, zD, zE, zF, zG, reduceCtorEq, zH, zI, zJ, zK, zL, List.length_append, List.length_map, List.length_cons, List.length_nil, Nat.zero_add]) <;> rfl, ?_⟩)) (by repeat (first | exact trivial | refine ⟨rfl, ?_⟩ | refine ⟨by (simp only [go_sem, zA, zB, zC, zD, zE, zF, zG, reduceCtorEq, zH, zI, zJ, zK, zL, List.length_append, List.length_map, List.length_cons, List.length_nil, Nat.zero_add]) <;> rfl, ?_⟩)) rfl rfl rfl⟩)
    all_goals (rw [Is, List.take_add_one, hx, ← show s = _ from hok]; rfl)
  · intro s hb hok
    simp only [go_sem, zA, zB, zC, zD, zE, zF, zG, reduceCtorEq, zH, zI, zJ, zK, zL]
    rw [Is, List.take_length] at hok
    repeat' (first | (simp only [go_sem, zA, zB, zC, zD, zE, zF, zG, reduceCtorEq, zH, zI, zJ, zK, zL, List.length_map, hb]; all_goals fail_if_success guard_target =ₛ False) | (with_reducible first | ((first | refine seqVC_stepN rfl ?_ | refine AWP.seq ?_ | refine AWP.seqR (by kernel_rfl) ?_); intro K hK) | ((first | refine hK _ _ _ ?_ | refine hK _ _ ?_ | refine hK _ ?_); clear hK K) | refine seqVC_nil ?_ | refine AWP.block ?_ | (refine AWP.cond (by with_unfolding_all rfl) ?_ ?_ <;> intro h <;> (try simp only [zM, zN] at h) <;> try exact absurd h (by decide)) | refine AWP.skip ?_ | refine AWP.ret ?_ | refine AWP.exit ?_ | refine Or.inl ?_) | (clear hK K))
    refine ⟨_, Gh.freeze 900 rfl rfl (by simp only [go_sem, zA, zB, zC, zD, zE, zF, zG, reduceCtorEq, zH, zI, zJ, zK, zL, List.length_map]) (by simp only [go_sem, zA, zB, zC, zD, zE, zF, zG, reduceCtorEq, zH, zI, zJ, zK, zL, List.length_map]), ?_⟩
    simp only [go_sem, zA, zB, zC, zD, zE, zF, zG, reduceCtorEq, zH, zI, zJ, zK, zL, List.length_map]
    all_goals (first | exact fun _ h => (by cases h) | refine fin0 ?_)
    all_goals (rw [show s = _ from hok])
theorem cloneEntries_c (l : List Ent) (hl : l.length ≤ 100000000) (h : ∀ e ∈ l, PC Tryz.prog 138 [VsP e.1] (VsP e.1) ∧ CloneC e.2.2) :
    PC Tryz.prog 140 [.one (.dat (.sl 9 (l.map encEnt)))] (.one (.dat (.sl 9 (l.map encEnt)))) := by
  refine PCB.of_body Tryz.func140 rfl (by decide) Tryz.ntmps140 Tryz.results140 rfl rfl rfl ?_ rfl rfl
  refine AWP.ghQ ?_
  repeat' (first | (simp only [go_sem, zA, zB, zC, zD, zE, zF, zG, reduceCtorEq, zH, zI, zJ, zK, zL, List.length_map]; all_goals fail_if_success guard_target =ₛ False) | (with_reducible first | ((first | refine seqVC_stepN rfl ?_ | refine AWP.seq ?_ | refine AWP.seqR (by kernel_rfl) ?_ | refine parVC_stepN rfl ?_ | refine parEVC_stepN rfl ?_ | refine genVC_stepN rfl ?_); intro K hK) | ((first | refine hK _ _ _ ?_ | refine hK _ _ ?_ | refine hK _ ?_); clear hK K) | refine seqVC_nil ?_ | refine parVC_nil ?_ | refine parEVC_nil ?_ | refine genVC_nil ?_ | refine AWP.block ?_ | (refine AWP.cond (by with_unfolding_all rfl) ?_ ?_ <;> intro h <;> (try simp only [zM, zN] at h) <;> try exact absurd h (by decide)) | refine AWP.skip ?_ | refine AWP.ret ?_ | refine AWP.exit ?_ | (refine AWP.segP (id := 5) 11 mixed (by kernel_rfl) fun K hK => ?_; simp only [List.take_succ_cons, List.take_zero, List.drop_succ_cons, List.drop_zero]) | refine AWP.parR mixed (by kernel_rfl) fun K hK => ?_ | refine ⟨(by kernel_rfl : depB _ _ _ = true), ?_⟩ | refine Or.inl ?_) | (clear hK K))
  refine AWP.gh (Gh.nilrow 3 900 rfl rfl rfl rfl) ?_
  refine AWP.len 6 rfl fun hlen0 => ?_
  (try rw [List.length_map] at hlen0)
  refine AWP.range (S := List Ent) (l) encEnt (fun k s => (8, I .i64 (k : Nat)) :: [(3, .one (.own 900 s.length))]) (fun k s => [(900, .row 9 (s.map encEnt))]) [6, 7] [] (fun k s => Is s (l.take k)) ([]) (by simp only [go_sem, zA, zB, zC, zD, zE, zF, zG, reduceCtorEq, zH, zI, zJ, zK, zL]; exact Gh.to [] (by repeat (first | exact trivial | refine ⟨rfl, ?_⟩ | refine ⟨by (simp only [go_sem, zA, zB, zC, zD, zE, zF, zG, reduceCtorEq, zH, zI, zJ, zK, zL, List.length_append, List.length_map, List.length_cons, List.length_nil, Nat.zero_add]) <;> rfl, ?_⟩)) (by repeat (first | exact trivial | refine ⟨rfl, ?_⟩ | refine ⟨by (simp only [go_sem, zA, zB, zC, zD, zE, zF, zG, reduceCtorEq, zH, zI, zJ, zK, zL, List.length_append, List.length_map, List.length_cons, List.length_nil, Nat.zero_add]) <;> rfl, ?_⟩)) rfl rfl rfl) ?_ ?_ ?_
  · simp [Is]
  · intro k s x hlt hx hx' hb hok
    simp only [go_sem, zA, zB, zC, zD, zE, zF, zG, reduceCtorEq, zH, zI, zJ, zK, zL]
    obtain ⟨hi1, hi2⟩ := h x (List.mem_of_getElem? hx)
    rw [CloneC, show Vt x.2.2 = T.st (encVal x.2.2) from rfl, encVal_eq x.2.2] at hi2
    have hsl : s.length ≤ k := by rw [show s = _ from hok, List.length_take]; omega
    repeat' (first | (simp only [go_sem, zA, zB, zC, zD, zE, zF, zG, reduceCtorEq, zH, zI, zJ, zK, zL, List.length_map, hb, encEnt_eq x, encVal_eq x.2.2, ent_snoc1]; all_goals fail_if_success guard_target =ₛ False) | (with_reducible first | ((first | refine seqVC_stepN rfl ?_ | refine AWP.seq ?_ | refine AWP.seqR (by kernel_rfl) ?_ | refine parVC_stepN rfl ?_ | refine parEVC_stepN rfl ?_ | refine genVC_stepN rfl ?_); intro K hK) | ((first | refine hK _ _ _ ?_ | refine hK _ _ ?_ | refine hK _ ?_); clear hK K) | refine seqVC_nil ?_ | refine parVC_nil ?_ | refine parEVC_nil ?_ | refine genVC_nil ?_ | refine AWP.block ?_ | (refine AWP.cond (by with_unfolding_all rfl) ?_ ?_ <;> intro h <;> (try simp only [zM, zN] at h) <;> try exact absurd h (by decide)) | refine AWP.skip ?_ | refine AWP.ret ?_ | refine AWP.exit ?_ | refine ⟨_, hi1, ?_⟩ | refine ⟨_, hi2, ?_⟩ | refine ⟨by omega, encEnt x, hx', ?_⟩ | (refine ⟨(by first | omega | (simp only [List.length_append, List.length_map, List.length_take, List.length_drop, List.length_cons, List.length_nil, List.length_replicate]; omega) : _ ≤ _), ?_⟩) | refine ⟨by omega, by omega, ?_⟩ | (refine AWP.segP (id := 5) 11 mixed (by kernel_rfl) fun K hK => ?_; simp only [List.take_succ_cons, List.take_zero, List.drop_succ_cons, List.drop_zero]) | refine AWP.parR mixed (by kernel_rfl) fun K hK => ?_ | refine ⟨(by kernel_rfl : depB _ _ _ = true), ?_⟩ | refine Or.inl ?_) | (clear hK K))
    all_goals (rw [wrap_succ hlt hlen0])
    all_goals (refine ⟨s ++ [x], ?_, Gh.to [(900, 23)] (by repeat (first | exact trivial | refine ⟨rfl, ?_⟩ | refine ⟨by (simp only [go_sem, zA, zB, zC, zD, zE, zF, zG, reduceCtorEq, zH, zI, zJ, zK, zL, List.length_append, List.length_map, List.length_cons, List.length_nil, Nat.zero_add]) <;> rfl, ?_⟩)) (by repeat (first | exact trivial | refine ⟨rfl, ?_⟩ | refine ⟨by (simp only [go_sem, zA, zB, zC, zD, zE, zF, zG, reduceCtorEq, zH, zI, zJ, zK, zL, List.length_append, List.length_map, List.length_cons, List.length_nil, Nat.zero_add]) <;> rfl, ?_⟩)) rfl rfl rfl⟩)
    all_goals (rw [Is, List.take_add_one, hx, ← show s = _ from hok]; rfl)
  · intro s hb hok
    simp only [go_sem, zA, zB, zC, zD, zE, zF, zG, reduceCtorEq, zH, zI, zJ, zK, zL]
    rw [Is, List.take_length] at hok
    repeat' (first | (simp only [go_sem, zA, zB, zC, zD, zE, zF, zG, reduceCtorEq, zH, zI, zJ, zK, zL, List.length_map, hb]; all_goals fail_if_success guard_target =ₛ False) | (with_reducible first | ((first | refine seqVC_stepN rfl ?_ | refine AWP.seq ?_ | refine AWP.seqR (by kernel_rfl) ?_ | refine parVC_stepN rfl ?_ | refine parEVC_stepN rfl ?_ | refine genVC_stepN rfl ?_); intro K hK) | ((first | refine hK _ _ _ ?_ | refine hK _ _ ?_ | refine hK _ ?_); clear hK K) | refine seqVC_nil ?_ | refine parVC_nil ?_ | refine parEVC_nil ?_ | refine genVC_nil ?_ | refine AWP.block ?_ | (refine AWP.cond (by with_unfolding_all rfl) ?_ ?_ <;> intro h <;> (try simp only [zM, zN] at h) <;> try exact absurd h (by decide)) | refine AWP.skip ?_ | refine AWP.ret ?_ | refine AWP.exit ?_ | (refine AWP.segP (id := 5) 11 mixed (by kernel_rfl) fun K hK => ?_; simp only [List.take_succ_cons, List.take_zero, List.drop_succ_cons, List.drop_zero]) | refine AWP.parR mixed (by kernel_rfl) fun K hK => ?_ | refine ⟨(by kernel_rfl : depB _ _ _ = true), ?_⟩ | refine Or.inl ?_) | (clear hK K))
    refine ⟨_, Gh.freeze 900 rfl rfl (by simp only [go_sem, zA, zB, zC, zD, zE, zF, zG, reduceCtorEq, zH, zI, zJ, zK, zL, List.length_map]) (by simp only [go_sem, zA, zB, zC, zD, zE, zF, zG, reduceCtorEq, zH, zI, zJ, zK, zL, List.length_map]), ?_⟩
    simp only [go_sem, zA, zB, zC, zD, zE, zF, zG, reduceCtorEq, zH, zI, zJ, zK, zL, List.length_map]
    all_goals (first | exact fun _ h => (by cases h) | refine fin0 ?_)
    all_goals (rw [show s = _ from hok])
theorem bulk_args {v : Val} {e : Ent} (he : e ∈ v.ents) : bulkVs e.1 + bulkV e.2.2 < bulkV v := by
  have := bulkV_eq v; have := bulkEs_mem he; have := bulkE_eq e; omega
theorem clone_c (v : Val) (hv : Sm v) : CloneC v := by
  have hb := bulkV_eq v
  have hbs : bulkV v ≤ 100000000 := hv
  have ih1 : ∀ k ∈ v.kids, CloneC k := fun k hk => clone_c k (hv.kid k hk)
  have h1 := cloneAll_c v.kids hv.kids ih1
  have h2 := cloneKeysL_c v.keys hv.keys
  have h3 := cloneStr_c v.labels (by omega)
  have ih2 : ∀ e ∈ v.ents, PC Tryz.prog 138 [VsP e.1] (VsP e.1) ∧ CloneC e.2.2 := fun e he => by
    have ha := bulk_args he
    have hlen := bulkVs_len e.1
    refine ⟨cloneAll_c e.1 (by omega) fun k hk => ?_, ?_⟩
    · have := bulkVs_mem hk
      exact clone_c k (by unfold Sm; omega)
    · exact clone_c e.2.2 (by unfold Sm; omega)
  have h4 := cloneEntries_c v.ents (by have := bulkEs_len v.ents; omega) ih2
  refine PCB.of_body Tryz.func107 rfl (by decide) Tryz.ntmps107 Tryz.results107 rfl rfl rfl ?_ rfl rfl
  repeat' (first | (simp only [go_sem, zA, zB, zC, zD, zE, zF, zG, reduceCtorEq, zH, zI, zJ, zK, zL, encVal_eq v, List.length_map]; all_goals fail_if_success guard_target =ₛ False) | (with_reducible first | ((first | refine seqVC_stepN rfl ?_ | refine AWP.seq ?_ | refine AWP.seqR (by kernel_rfl) ?_); intro K hK) | ((first | refine hK _ _ _ ?_ | refine hK _ _ ?_ | refine hK _ ?_); clear hK K) | refine seqVC_nil ?_ | refine AWP.block ?_ | (refine AWP.cond (by with_unfolding_all rfl) ?_ ?_ <;> intro h <;> (try simp only [zM, zN] at h) <;> try exact absurd h (by decide)) | refine AWP.skip ?_ | refine AWP.ret ?_ | refine AWP.exit ?_ | refine ⟨_, h1, ?_⟩ | refine ⟨_, h2, ?_⟩ | refine ⟨_, h3, ?_⟩ | refine ⟨_, h4, ?_⟩ | refine Or.inl ?_) | (clear hK K))
  all_goals (first | exact fun _ h => (by cases h) | refine fin0 ?_)
  all_goals (first | rfl | (rw [show Vt v = T.st (encVal v) from rfl, encVal_eq v]; done))
termination_by bulkV v
decreasing_by
  · have := bulkVs_mem hk; omega
  · omega
  · omega
def MadeGC (f : Src → Grd × Src) (d : Nat) : Prop := ∀ s : Src, s.ok → PCB Tryz.prog 10 [Sp pin, I .i64 d] [(pin, srcB s)] (Gt (f s).1) [(pin, srcB (f s).2)]
theorem MadeGC.k {f : Src → Grd × Src} {d : Nat} (H : MadeGC f d) (k : Nat) (s : Src) (hs : s.ok) : PCBk Tryz.prog 10 [Sp k, I .i64 d] k (srcB s) (Gt (f s).1) (srcB (f s).2) := PCBk.mk k (H s hs)
end Go.Proofs.YteobojeemflggaaGreat

set_option linter.unusedSimpArgs false
set_option linter.unusedVariables false
set_option maxRecDepth 20000
set_option maxHeartbeats 1000000
namespace Go.Proofs.YteobojeemflggaaGreat
open Go Go.Sx
open Nat renaming reduceBEq → zA, reduceBNe → zB, reduceAdd → zC, reduceSub → zD, reduceMul → zE, reduceLeDiff → zF, reduceLT → zG, reduceEqDiff → zH
open Int renaming reduceToNat → zI, reduceLE → zJ, reduceLT → zK, reduceEq → zL
open Bool renaming not_eq_true' → zM, not_eq_false' → zN
theorem sorted_len (l : List (List UInt8)) : (sortedV l).length ≤ l.length := by
  have h : ∀ (l acc : List (List UInt8)), (l.foldl insS acc).length ≤ acc.length + l.length := by
    intro l
    induction l with
    | nil => intro acc; simp
    | cons x l ih =>
      intro acc
      have h1 := ih (insS acc x)
      have h2 := insS_len acc x
      simp only [List.foldl_cons, List.length_cons]
      omega
  have := h l []
  simpa [sortedV] using this
def bnd : Nat → Nat
  | 0 => 1
  | 1 => 1
  | h + 2 => 8 * (bnd (h + 1) + 2) + 8 * (bnd h + 2) + 20
end Go.Proofs.YteobojeemflggaaGreat
set_option linter.unusedSimpArgs false
set_option linter.unusedVariables false
set_option maxRecDepth 20000
set_option maxHeartbeats 4000000
namespace Go.Proofs.YteobojeemflggaaGreat
open Go Go.Sx
open Nat renaming reduceBEq → zA, reduceBNe → zB, reduceAdd → zC, reduceSub → zD, reduceMul → zE, reduceLeDiff → zF, reduceLT → zG, reduceEqDiff → zH
open Int renaming reduceToNat → zI, reduceLE → zJ, reduceLT → zK, reduceEq → zL
open Bool renaming not_eq_true' → zM, not_eq_false' → zN
theorem cells_key {n : Nat} {row : List C} (h : hasT Tryz.prog n 33 row) : ∃ k : KeyD, row = encKey k := by
  obtain ⟨m, parts, rfl, rfl, hl, hf⟩ := cells_st Tryz.underlying33 h
  match parts, hl with
  | [p0, p1], _ =>
    obtain ⟨a, rfl⟩ := cells_i64 Tryz.underlying3 (hf 0 _ p0 rfl rfl)
    obtain ⟨b, rfl⟩ := cells_text Tryz.underlying9 (hf 1 _ p1 rfl rfl)
    exact ⟨⟨a, b⟩, rfl⟩
end Go.Proofs.YteobojeemflggaaGreat

set_option linter.unusedSimpArgs false
set_option linter.unusedVariables false
set_option maxRecDepth 20000
set_option maxHeartbeats 16000000
namespace Go.Proofs.YteobojeemflggaaGreat
open Go Go.Sx
open Nat renaming reduceBEq → zA, reduceBNe → zB, reduceAdd → zC, reduceSub → zD, reduceMul → zE, reduceLeDiff → zF, reduceLT → zG, reduceEqDiff → zH
open Int renaming reduceToNat → zI, reduceLE → zJ, reduceLT → zK, reduceEq → zL
open Bool renaming not_eq_true' → zM, not_eq_false' → zN
theorem tree_leaf (v : Val) (hk : v.kids = []) (he : v.ents = []) : treeB v = nodeB v := by
  rw [treeB_kids, hk, he]; simp
theorem clip_calls (a : Option Addr) (n cap : Nat) (hn : n ≤ cap) (w : World) : Calls Tryz.prog 72 #[.slice a n cap] w fun e w' => e = .returned (.slice a n n) ∧ w' = w := by
  go_enter Tryz.func72, Tryz.ntmps72
  go_wp2
  all_goals go_ret
  all_goals exact ⟨rfl, rfl⟩
theorem clip_c (rows : List (List C)) : PC Tryz.prog 72 [.one (.dat (.sl 1 rows))] (.one (.dat (.sl 1 rows))) := by
  refine ⟨⟨_, Tryz.func72, by decide, rfl⟩, ?_⟩
  intro M ν w vs hs hreps
  simp only [T.reps, T.rep, Cell.rep, C.rep] at hreps
  obtain ⟨v, vs', rfl, ⟨a, cap, mid, rfl, h1, h2, h3, h4⟩, rfl⟩ := hreps
  refine Calls.mono (clip_calls a rows.length cap h1 w) ?_
  rintro e w' ⟨rfl, rfl⟩
  refine ⟨_, M, rfl, Mem.ext.refl _ M, ?_, hs⟩
  simp only [T.rep, Cell.rep, C.rep]
  exact ⟨a, rows.length, mid, rfl, Nat.le_refl _, Nat.le_trans h1 h2, h3, h4⟩
theorem asc_pair : ∀ l : List (List UInt8), ascB Lib.compareBytes l = true → l.Pairwise (· < ·)
  | [], _ => .nil
  | [x], _ => List.pairwise_singleton _ x
  | x :: y :: m, h => by
    have h' : (decide (Lib.compareBytes x y < 0) && ascB Lib.compareBytes (y :: m)) = true := h
    rw [Bool.and_eq_true, ← less_dec, less_eq] at h'
    have ih := asc_pair (y :: m) h'.2
    have hxy := of_decide_eq_true h'.1
    refine List.Pairwise.cons (fun z hz => ?_) ih
    rcases List.mem_cons.1 hz with rfl | hz
    · exact hxy
    · exact List.lt_trans hxy ((List.pairwise_cons.1 ih).1 z hz)
theorem sorted_asc (l : List (List UInt8)) (h : l.Pairwise (· < ·)) : sortedV l = l := by
  obtain ⟨h1, h2⟩ := sortedV_spec l
  exact strict_ext _ _ h1 h h2
theorem sort_asc (l : List (List UInt8)) (h : l.Pairwise (· < ·)) : (l.mergeSort fun x y => decide (x ≤ y)) = l := by
  rw [sorted_nodup l (by rw [sorted_asc l h]; exact Nat.le_refl _), sorted_asc l h]
theorem labels_asc {v : Val} (h : treeB v = true) : v.labels.Pairwise (· < ·) := by
  rw [treeB_kids, Bool.and_eq_true] at h
  have h1 := h.1
  unfold nodeB labelsB at h1
  simp only [Bool.and_eq_true] at h1
  exact asc_pair _ h1.2.1.1
theorem withLabels_c (v : Val) (hv : Sm v) (hl : v.labels.Pairwise (· < ·)) : PC Tryz.prog 77 [Vt v, SsP v.labels] (Vt v) := by
  have hb := bulkV_eq v
  have hbs : bulkV v ≤ 100000000 := hv
  have h1 : PC Tryz.prog 107 [.st (encVal v)] (.st (encVal v)) := clone_c v hv
  rw [encVal_eq v] at h1
  have h2 := cloneStr_n v.labels (by omega)
  have h3 : PCBk Tryz.prog 71 [.one (.own 9 v.labels.length)] 9 (.row 1 (v.labels.map Sx.encStr)) (.tup []) (.row 1 (v.labels.map Sx.encStr)) := by
    have h := PCBk.own1 9 (sortStr_c Go.Proofs.Tryz.sortS v.labels (by omega))
    rw [sort_asc _ hl] at h
    exact h
  have h4 : PCBk Tryz.prog 73 [.one (.own 9 v.labels.length)] 9 (.row 1 (v.labels.map Sx.encStr)) (.one (.own 9 v.labels.length)) (.row 1 (v.labels.map Sx.encStr)) := by
    have h := compactStr_c Go.Proofs.Tryz.compS (v.labels.mergeSort fun x y => decide (x ≤ y))
    rw [compact_sort, List.length_mergeSort, sort_asc _ hl, sorted_asc _ hl] at h
    exact PCBk.own2 9 h
  have h5 := clip_c (v.labels.map Sx.encStr)
  refine PCB.of_body Tryz.func77 rfl (by decide) Tryz.ntmps77 Tryz.results77 rfl rfl rfl ?_ rfl rfl
  repeat' (first | (simp only [go_sem, zA, zB, zC, zD, zE, zF, zG, reduceCtorEq, zH, zI, zJ, zK, zL, encVal_eq v, List.length_map]; all_goals fail_if_success guard_target =ₛ False) | (with_reducible first | ((first | refine seqVC_stepN rfl ?_ | refine AWP.seq ?_ | refine AWP.seqR (by kernel_rfl) ?_); intro K hK) | ((first | refine hK _ _ _ ?_ | refine hK _ _ ?_ | refine hK _ ?_); clear hK K) | refine seqVC_nil ?_ | refine AWP.block ?_ | (refine AWP.cond (by with_unfolding_all rfl) ?_ ?_ <;> intro h <;> (try simp only [zM, zN] at h) <;> try exact absurd h (by decide)) | refine AWP.skip ?_ | refine AWP.ret ?_ | refine AWP.exit ?_ | refine ⟨_, h1, ?_⟩ | refine Or.inr ⟨_, _, h2, ?_⟩ | refine ⟨_, h5, ?_⟩) | (apply Or.inr; refine ⟨9, _, _, _, h3, rfl, ?_⟩; simp only [go_sem, zA, zB, zC, zD, zE, zF, zG, reduceCtorEq, zH, zI, zJ, zK, zL]) | (apply Or.inr; refine ⟨9, _, _, _, h4, rfl, ?_⟩; simp only [go_sem, zA, zB, zC, zD, zE, zF, zG, reduceCtorEq, zH, zI, zJ, zK, zL]) | (with_reducible first | refine Or.inl ?_) | (clear hK K))
  all_goals (first | exact fun _ h => (by cases h) | refine fin0 ?_)
  all_goals (first | rfl | (rw [show Vt v = T.st (encVal v) from rfl, encVal_eq v]; done))
theorem getV_put (k k' : List UInt8) (v : Val) : ∀ m : ME, getV k (putV k' v m) = if k' = k then some v else getV k m
  | [] => by
    by_cases h : k' = k
    · simp [putV, getV, h]
    · simp [putV, getV, h]
  | p :: m => by
    have ih := getV_put k k' v m
    by_cases hp : p.1 = k'
    · by_cases h : k' = k
      · simp [putV, getV, h, hp]
      · simp [putV, getV, h, hp]
    · by_cases h : k' = k
      · subst h
        simp only [putV, hp, decide_false, cond_false, getV, ih, if_true]
      · rw [if_neg h] at ih
        simp only [putV, hp, decide_false, cond_false, getV, ih, if_neg h]
/-- what a map holds is good, and these names are in it -/
def GoodM (m : ME) : Prop := ∀ k w, getV k m = some w → treeB w = true ∧ Sm w
def Has (m : ME) (k : List UInt8) : Prop := ∃ w, getV k m = some w
theorem goodM_put {m : ME} (h : GoodM m) {k : List UInt8} {v : Val} (h1 : treeB v = true) (h2 : Sm v) : GoodM (putV k v m) := by
  intro k' w hw
  rw [getV_put] at hw
  by_cases e : k = k'
  · rw [if_pos e] at hw; cases hw; exact ⟨h1, h2⟩
  · rw [if_neg e] at hw; exact h k' w hw
theorem has_put {m : ME} {k k' : List UInt8} (v : Val) (h : k' = k ∨ Has m k) : Has (putV k' v m) k := by
  unfold Has
  rw [getV_put]
  by_cases e : k' = k
  · exact ⟨v, if_pos e⟩
  · rw [if_neg e]; exact h.resolve_left e
/-- after a match: good stays good, what was in stays in, and the pattern's names are in -/
structure Ms (l : List (List UInt8)) (m m' : ME) (ok : Bool) : Prop where
  good : GoodM m → GoodM m'
  keep : ∀ k, Has m k → Has m' k
  nm : ok = true → ∀ k ∈ l, Has m' k
theorem Ms.same (m : ME) (ok : Bool) : Ms [] m m ok := ⟨id, fun _ h => h, fun _ k hk => by cases hk⟩
theorem valAt_mem {v w : Val} {k : KeyD} (h : valAt v k = some w) : w ∈ v.kids := by
  unfold valAt at h
  cases hd : decide (findI (fun x => sameK k x) 0 v.keys < 0)
  · rw [hd, cond_false] at h; exact List.mem_of_getElem? h
  · rw [hd, cond_true] at h; cases h
theorem ms_L : ∀ (l : List Pat) (vs : List Val) (m : ME), (∀ g ∈ l, ∀ w ∈ vs, ∀ m, Ms (collP g) m (matchP g w m).2 (matchP g w m).1) → (l.length ≤ vs.length) → Ms (l.flatMap collP) m (matchL l vs m).2 (matchL l vs m).1
  | [], vs, m, _, _ => by rw [matchL_nil]; exact Ms.same m true
  | g :: l, [], m, _, hlen => by simp at hlen
  | g :: l, v :: vs, m, h, hlen => by
    have h1 := h g (by simp) v (by simp) m
    have h2 := ms_L l vs (matchP g v m).2 (fun g hg w hw => h g (List.mem_cons_of_mem _ hg) w (List.mem_cons_of_mem _ hw)) (by simpa using hlen)
    rw [matchL]
    cases hz : (matchP g v m).1
    · simp only [cond_false]
      exact ⟨h1.good, h1.keep, fun h => by cases h⟩
    · simp only [cond_true]
      refine ⟨fun hm => h2.good (h1.good hm), fun k hk => h2.keep k (h1.keep k hk), fun ok k hk => ?_⟩
      rw [List.flatMap_cons, List.mem_append] at hk
      rcases hk with hk | hk
      · exact h2.keep k (h1.nm hz k hk)
      · exact h2.nm ok k hk
theorem ms_M : ∀ (ks : List KeyD) (l : List Pat) (v : Val) (m : ME), (∀ g ∈ l, ∀ w ∈ v.kids, ∀ m, Ms (collP g) m (matchP g w m).2 (matchP g w m).1) → (l.length ≤ ks.length) → Ms (l.flatMap collP) m (matchM ks l v m).2 (matchM ks l v m).1
  | ks, [], v, m, _, _ => by
    have : matchM ks [] v m = (true, m) := by cases ks <;> rfl
    rw [this]; exact Ms.same m true
  | [], g :: l, v, m, _, hlen => by simp at hlen
  | k :: ks, g :: l, v, m, h, hlen => by
    rw [matchM]
    cases hv : valAt v k with
    | none => exact ⟨id, fun _ h => h, fun h => by cases h⟩
    | some w =>
      have h1 := h g (by simp) w (valAt_mem hv) m
      have h2 := ms_M ks l v (matchP g w m).2 (fun g hg w hw => h g (List.mem_cons_of_mem _ hg) w hw) (by simpa using hlen)
      simp only
      cases hz : (matchP g w m).1
      · simp only [cond_false]
        exact ⟨h1.good, h1.keep, fun h => by cases h⟩
      · simp only [cond_true]
        refine ⟨fun hm => h2.good (h1.good hm), fun k hk => h2.keep k (h1.keep k hk), fun ok k hk => ?_⟩
        rw [List.flatMap_cons, List.mem_append] at hk
        rcases hk with hk | hk
        · exact h2.keep k (h1.nm hz k hk)
        · exact h2.nm ok k hk
theorem vP_kids0 {g : Pat} (h : vP g = true) (hk : kidsP g.kind = false) : g.kids = [] := by
  have hb : badP g = false := by unfold vP at h; simp only [Bool.and_eq_true, Bool.not_eq_true'] at h; exact h.1
  unfold badP at hb
  rw [hk] at hb
  simp only [Bool.or_eq_false_iff, Bool.not_false, Bool.true_and, decide_eq_false_iff_not] at hb
  exact List.length_eq_zero_iff.1 (by omega)
theorem ms_P (g : Pat) (v : Val) (m : ME) (hg : treeP g = true) (hv : treeB v = true) (hs : Sm v) : Ms (collP g) m (matchP g v m).2 (matchP g v m).1 := by
  have ih : ∀ k ∈ g.kids, ∀ w : Val, treeB w = true → Sm w → ∀ m, Ms (collP k) m (matchP k w m).2 (matchP k w m).1 := fun k hk w hw hsw m => ms_P k w m (treeP_kid hg hk) hw hsw
  have hvp := vP_of hg
  rw [collP_eq, matchP_eq]
  rcases kindsP hvp with hk | hk | hk | hk | hk | hk | hk | hk | ⟨hk, hkk⟩ | ⟨hk, k0, hk0⟩
  · rw [hk, vP_kids0 hvp (by rw [hk]; rfl)]; exact Ms.same m _
  · rw [hk, vP_kids0 hvp (by rw [hk]; rfl)]
    refine ⟨fun h => goodM_put h hv hs, fun k h => has_put v (.inr h), fun _ k h => has_put v (.inl ?_)⟩
    have : k ∈ [g.text] := by simpa [nameP] using h
    exact (List.mem_singleton.1 this).symm
  · rw [hk, vP_kids0 hvp (by rw [hk]; rfl)]; exact Ms.same m _
  · rw [hk, vP_kids0 hvp (by rw [hk]; rfl)]; exact Ms.same m _
  · rw [hk, vP_kids0 hvp (by rw [hk]; rfl)]; exact Ms.same m _
  · rw [hk, vP_kids0 hvp (by rw [hk]; rfl)]; exact Ms.same m _
  · rw [hk]
    show Ms (g.kids.flatMap collP) m (bif decide (v.kind = 6) && decide (g.kids.length = v.kids.length) then matchL g.kids v.kids m else (false, m)).2 (bif decide (v.kind = 6) && decide (g.kids.length = v.kids.length) then matchL g.kids v.kids m else (false, m)).1
    cases hz : decide (v.kind = 6) && decide (g.kids.length = v.kids.length)
    · exact ⟨id, fun _ h => h, fun h => by cases h⟩
    · rw [Bool.and_eq_true, decide_eq_true_eq, decide_eq_true_eq] at hz
      exact ms_L g.kids v.kids m (fun g hg w hw => ih g hg w (treeB_kid hv hw) (hs.kid w hw)) (by omega)
  · rw [hk]
    show Ms (g.kids.flatMap collP) m (bif decide (v.kind = 7) && decide (g.kids.length = v.kids.length) then matchL g.kids v.kids m else (false, m)).2 (bif decide (v.kind = 7) && decide (g.kids.length = v.kids.length) then matchL g.kids v.kids m else (false, m)).1
    cases hz : decide (v.kind = 7) && decide (g.kids.length = v.kids.length)
    · exact ⟨id, fun _ h => h, fun h => by cases h⟩
    · rw [Bool.and_eq_true, decide_eq_true_eq, decide_eq_true_eq] at hz
      exact ms_L g.kids v.kids m (fun g hg w hw => ih g hg w (treeB_kid hv hw) (hs.kid w hw)) (by omega)
  · rw [hk]
    show Ms (g.kids.flatMap collP) m (bif decide (v.kind = 8) then matchM g.keys g.kids v m else (false, m)).2 (bif decide (v.kind = 8) then matchM g.keys g.kids v m else (false, m)).1
    cases hz : decide (v.kind = 8)
    · exact ⟨id, fun _ h => h, fun h => by cases h⟩
    · exact ms_M g.keys g.kids v m (fun g hg w hw => ih g hg w (treeB_kid hv hw) (hs.kid w hw)) (by omega)
  · rw [hk, hk0]
    have h0 := ih k0 (by rw [hk0]; simp) v hv hs (putV g.text v m)
    show Ms ([g.text] ++ [k0].flatMap collP) m (matchP k0 v (putV g.text v m)).2 (matchP k0 v (putV g.text v m)).1
    refine ⟨fun h => h0.good (goodM_put h hv hs), fun k h => h0.keep k (has_put v (.inr h)), fun ok k h => ?_⟩
    simp only [List.singleton_append, List.flatMap_cons, List.flatMap_nil, List.append_nil, List.mem_cons] at h
    rcases h with rfl | h
    · exact h0.keep _ (has_put v (.inl rfl))
    · exact h0.nm ok k h
termination_by cntP g
decreasing_by exact cntP_kid hk
theorem freshs_dat (k : Nat) : ∀ r : List C, Cell.freshs k (r.map Cell.dat) = true
  | [] => rfl
  | c :: r => by simp [Cell.freshs, Cell.fresh, freshs_dat k r]
/-- what Match returns -/
def atM (m : ME) (k : List UInt8) : Val := (getV k m).getD zeroVal
def matchV (g : Pat) (v : Val) : List Val × Bool :=
  bif treeB v && (matchP (soundP g) v []).1 then ((namesP g).map (atM (matchP (soundP g) v []).2), true) else ([], false)
theorem sound_twice (g : Pat) : soundP (soundP g) = soundP g := by
  have := soundP_ok g
  rw [soundP.eq_def (soundP g), this]; rfl
theorem names_sound (g : Pat) : namesP (soundP g) = namesP g := by unfold namesP; rw [sound_twice]
theorem Match_c (g : Pat) (v : Val) (hg : PSm g) (hv : Sm v) : PC Tryz.prog 39 [Pt g, Vt v] (.tup [VsP (matchV g v).1, Bo (matchV g v).2]) := by
  have hs := soundP_sm g
  have h1 := soundP_c g hg
  have h2 := validate_c v hv
  rw [show Pt g = T.st (encP g) from rfl] at h1
  unfold matchV
  cases hz : treeB v <;> rw [hz] at h2
  case false =>
    refine PCB.of_body Tryz.func39 rfl (by decide) Tryz.ntmps39 Tryz.results39 rfl rfl rfl ?_ rfl rfl
    repeat' (first | (simp only [go_sem, zA, zB, zC, zD, zE, zF, zG, reduceCtorEq, zH, zI, zJ, zK, zL, Int.reduceEq]; all_goals fail_if_success guard_target =ₛ False) | (with_reducible first | ((first | refine seqVC_stepN rfl ?_ | refine seqVC_stepG rfl (by with_unfolding_all rfl) ?_ | refine AWP.seq ?_ | refine AWP.seqR (by kernel_rfl) ?_); intro K hK) | ((first | refine hK _ _ _ ?_ | refine hK _ _ ?_ | refine hK _ ?_); clear hK K) | refine seqVC_nil ?_ | refine AWP.block ?_ | (refine AWP.cond (by with_unfolding_all rfl) ?_ ?_ <;> intro h <;> (try simp only [zM, zN] at h) <;> try exact absurd h (by decide)) | refine AWP.skip ?_ | refine AWP.ret ?_ | refine AWP.exit ?_ | (refine ⟨fun h => ?_, fun h => ?_⟩ <;> (try simp only [zM, zN] at h) <;> try simp only [h]) | refine ⟨_, h1, ?_⟩ | refine ⟨_, h2, ?_⟩ | refine Or.inl ?_) | (clear hK K))
    all_goals (first | exact fun _ h => (by cases h) | (refine fin0 ?_; first | rfl | (simp only [zb, cond_true, cond_false, decide_true, decide_false] <;> rfl)))
  have ht := okP_tree (soundP_ok g)
  have h3 := match_c (soundP g) v ht hz []
  have hms := ms_P (soundP g) v [] ht hz hv
  cases hm : (matchP (soundP g) v []).1 <;> rw [hm] at h3
  case false =>
    refine PCB.of_body Tryz.func39 rfl (by decide) Tryz.ntmps39 Tryz.results39 rfl rfl rfl ?_ rfl rfl
    repeat' (first | (simp only [go_sem, zA, zB, zC, zD, zE, zF, zG, reduceCtorEq, zH, zI, zJ, zK, zL, Int.reduceEq]; all_goals fail_if_success guard_target =ₛ False) | (with_reducible first | ((first | refine seqVC_stepN rfl ?_ | refine seqVC_stepG rfl (by with_unfolding_all rfl) ?_ | refine AWP.seq ?_ | refine AWP.seqR (by kernel_rfl) ?_); intro K hK) | ((first | refine hK _ _ _ ?_ | refine hK _ _ ?_ | refine hK _ ?_); clear hK K) | refine seqVC_nil ?_ | refine AWP.block ?_ | (refine AWP.cond (by with_unfolding_all rfl) ?_ ?_ <;> intro h <;> (try simp only [zM, zN] at h) <;> try exact absurd h (by decide)) | refine AWP.skip ?_ | refine AWP.ret ?_ | refine AWP.exit ?_ | (refine ⟨fun h => ?_, fun h => ?_⟩ <;> (try simp only [zM, zN] at h) <;> try simp only [h]) | refine ⟨_, h1, ?_⟩ | refine ⟨_, h2, ?_⟩) | (refine ⟨12, _, _, _, PCBk.mk 12 h3, rfl, ?_⟩) | (with_reducible first | refine Or.inl ?_) | (clear hK K))
    all_goals (first | exact fun _ h => (by cases h) | (refine fin0 ?_; first | rfl | (simp only [zb, cond_true, cond_false, decide_true, decide_false] <;> rfl)))
  have hnm := NamesP_c (soundP g) hs
  rw [names_sound] at hnm
  have hin : ∀ k ∈ namesP g, Has (matchP (soundP g) v []).2 k := fun k hk => hms.nm hm k ((sortedV_spec _).2 k |>.1 hk)
  have hgood := hms.good (show GoodM [] from fun k w (h : none = some w) => by cases h)
  have hlen : (namesP g).length ≤ 100000000 := by
    have h5 := collP_len (soundP g)
    have h6 := okP_cnt (soundP_ok g)
    have h7 := sorted_len (collP (soundP g))
    unfold namesP; omega
  generalize (matchP (soundP g) v []).2 = M at *
  generalize namesP g = L at *
  refine PCB.of_body Tryz.func39 rfl (by decide) Tryz.ntmps39 Tryz.results39 rfl rfl rfl ?_ rfl rfl
  refine AWP.ghQ ?_
  repeat' (first | (simp only [go_sem, zA, zB, zC, zD, zE, zF, zG, reduceCtorEq, zH, zI, zJ, zK, zL, Int.reduceEq]; all_goals fail_if_success guard_target =ₛ False) | (with_reducible first | ((first | refine seqVC_stepN rfl ?_ | refine seqVC_stepG rfl (by with_unfolding_all rfl) ?_ | refine AWP.seq ?_ | refine AWP.seqR (by kernel_rfl) ?_); intro K hK) | ((first | refine hK _ _ _ ?_ | refine hK _ _ ?_ | refine hK _ ?_); clear hK K) | refine seqVC_nil ?_ | refine AWP.block ?_ | (refine AWP.cond (by with_unfolding_all rfl) ?_ ?_ <;> intro h <;> (try simp only [zM, zN] at h) <;> try exact absurd h (by decide)) | refine AWP.skip ?_ | refine AWP.ret ?_ | refine AWP.exit ?_ | (refine ⟨fun h => ?_, fun h => ?_⟩ <;> (try simp only [zM, zN] at h) <;> try simp only [h]) | refine ⟨_, h1, ?_⟩ | refine ⟨_, h2, ?_⟩ | refine ⟨_, hnm, ?_⟩) | (refine ⟨12, _, _, _, PCBk.mk 12 h3, rfl, ?_⟩) | (with_reducible first | refine Or.inl ?_) | (clear hK K))
  refine AWP.gh (Gh.nilrow 7 900 rfl rfl rfl (by simp [Bx.fresh, freshs_dat])) ?_
  refine AWP.len 24 rfl fun hlen0 => ?_
  (try rw [List.length_map] at hlen0)
  refine AWP.range (S := List Val) (L) Sx.encStr (fun k s => (26, I .i64 (k : Nat)) :: [(7, .one (.own 900 s.length))]) (fun k s => [(900, .row 7 (s.map encVal))]) [6, 24, 25] [12] (fun k s => Is s ((L.take k).map (atM M))) ([]) (by simp only [go_sem, zA, zB, zC, zD, zE, zF, zG, reduceCtorEq, zH, zI, zJ, zK, zL]; exact Gh.to [] (by repeat (first | exact trivial | refine ⟨rfl, ?_⟩ | refine ⟨by (simp only [go_sem, zA, zB, zC, zD, zE, zF, zG, reduceCtorEq, zH, zI, zJ, zK, zL, List.length_append, List.length_map, List.length_cons, List.length_nil, Nat.zero_add]) <;> rfl, ?_⟩)) (by repeat (first | exact trivial | refine ⟨rfl, ?_⟩ | refine ⟨by (simp only [go_sem, zA, zB, zC, zD, zE, zF, zG, reduceCtorEq, zH, zI, zJ, zK, zL, List.length_append, List.length_map, List.length_cons, List.length_nil, Nat.zero_add]) <;> rfl, ?_⟩)) rfl rfl rfl) ?_ ?_ ?_
  · simp [Is]
  · intro k s x hlt hx hx' hb hok
    simp only [go_sem, zA, zB, zC, zD, zE, zF, zG, reduceCtorEq, zH, zI, zJ, zK, zL]
    obtain ⟨w, hw⟩ := hin x (List.mem_of_getElem? hx)
    obtain ⟨hw1, hw2⟩ := hgood x w hw
    have hwl : PC Tryz.prog 77 [.st (encVal w), SsP w.labels] (.st (encVal w)) := withLabels_c w hw2 (labels_asc hw1)
    rw [encVal_eq w] at hwl
    have hae : assoc x (encM M) = some (encVal w) := by rw [assoc_enc, hw]; rfl
    have hsl : s.length ≤ k := by rw [show s = _ from hok, List.length_map, List.length_take]; omega
    repeat' (first | (simp only [go_sem, zA, zB, zC, zD, zE, zF, zG, reduceCtorEq, zH, zI, zJ, zK, zL, List.length_map, hb, hae, Option.getD_some, encVal_eq w, Sx.encStr, val_snoc']; all_goals fail_if_success guard_target =ₛ False) | (with_reducible first | ((first | refine seqVC_stepN rfl ?_ | refine seqVC_stepG rfl (by with_unfolding_all rfl) ?_ | refine AWP.seq ?_ | refine AWP.seqR (by kernel_rfl) ?_); intro K hK) | ((first | refine hK _ _ _ ?_ | refine hK _ _ ?_ | refine hK _ ?_); clear hK K) | refine seqVC_nil ?_ | refine AWP.block ?_ | (refine AWP.cond (by with_unfolding_all rfl) ?_ ?_ <;> intro h <;> (try simp only [zM, zN] at h) <;> try exact absurd h (by decide)) | refine AWP.skip ?_ | refine AWP.ret ?_ | refine AWP.exit ?_ | (refine ⟨fun h => ?_, fun h => ?_⟩ <;> (try simp only [zM, zN] at h) <;> try simp only [h]) | refine ⟨_, hwl, ?_⟩ | refine ⟨by omega, Sx.encStr x, hx', ?_⟩ | (refine ⟨(by first | omega | (simp only [List.length_append, List.length_map, List.length_take, List.length_drop, List.length_cons, List.length_nil, List.length_replicate]; omega) : _ ≤ _), ?_⟩) | refine ⟨by omega, by omega, ?_⟩ | refine Or.inl ?_) | (clear hK K))
    all_goals (rw [wrap_succ hlt hlen0])
    all_goals (refine ⟨s ++ [w], ?_, Gh.to [(900, 40)] (by repeat (first | exact trivial | refine ⟨rfl, ?_⟩ | refine ⟨by (simp only [go_sem, zA, zB, zC, zD, zE, zF, zG, reduceCtorEq, zH, zI, zJ, zK, zL, List.length_append, List.length_map, List.length_cons, List.length_nil, Nat.zero_add]) <;> rfl, ?_⟩)) (by repeat (first | exact trivial | refine ⟨rfl, ?_⟩ | refine ⟨by (simp only [go_sem, zA, zB, zC, zD, zE, zF, zG, reduceCtorEq, zH, zI, zJ, zK, zL, List.length_append, List.length_map, List.length_cons, List.length_nil, Nat.zero_add]) <;> rfl, ?_⟩)) rfl rfl rfl⟩)
    all_goals (rw [Is, List.take_add_one, hx, List.map_append, ← show s = _ from hok]; simp [atM, hw])
  · intro s hb hok
    simp only [go_sem, zA, zB, zC, zD, zE, zF, zG, reduceCtorEq, zH, zI, zJ, zK, zL]
    rw [Is, List.take_length] at hok
    repeat' (first | (simp only [go_sem, zA, zB, zC, zD, zE, zF, zG, reduceCtorEq, zH, zI, zJ, zK, zL, List.length_map, hb]; all_goals fail_if_success guard_target =ₛ False) | (with_reducible first | ((first | refine seqVC_stepN rfl ?_ | refine seqVC_stepG rfl (by with_unfolding_all rfl) ?_ | refine AWP.seq ?_ | refine AWP.seqR (by kernel_rfl) ?_); intro K hK) | ((first | refine hK _ _ _ ?_ | refine hK _ _ ?_ | refine hK _ ?_); clear hK K) | refine seqVC_nil ?_ | refine AWP.block ?_ | (refine AWP.cond (by with_unfolding_all rfl) ?_ ?_ <;> intro h <;> (try simp only [zM, zN] at h) <;> try exact absurd h (by decide)) | refine AWP.skip ?_ | refine AWP.ret ?_ | refine AWP.exit ?_ | (refine ⟨fun h => ?_, fun h => ?_⟩ <;> (try simp only [zM, zN] at h) <;> try simp only [h]) | refine Or.inl ?_) | (clear hK K))
    refine ⟨_, Gh.freeze 900 rfl rfl (by simp only [go_sem, zA, zB, zC, zD, zE, zF, zG, reduceCtorEq, zH, zI, zJ, zK, zL, List.length_map]) (by simp only [go_sem, zA, zB, zC, zD, zE, zF, zG, reduceCtorEq, zH, zI, zJ, zK, zL, List.length_map]), ?_⟩
    simp only [go_sem, zA, zB, zC, zD, zE, zF, zG, reduceCtorEq, zH, zI, zJ, zK, zL, List.length_map]
    all_goals (first | exact fun _ h => (by cases h) | refine fin0 ?_)
    all_goals (rw [show s = _ from hok])
def listV (l : List Val) : Val := l.foldr consVal nilVal
theorem listV_drop {l : List Val} {k : Nat} {x : Val} (hx : l[k]? = some x) : listV (l.drop k) = consVal x (listV (l.drop (k + 1))) := by
  obtain ⟨h1, h2⟩ := List.getElem?_eq_some_iff.1 hx
  rw [List.drop_eq_getElem_cons h1, h2]; rfl
theorem refList_c (l : List Val) (hl : l.length ≤ 1000000) : PC Tryz.prog 40 [VsP l] (Vt (listV l)) := by
  have hw0 : IntKind.i64.wrap ((l.length : Int) - 1) = (l.length : Int) - 1 := by rw [w64 (by omega)]
  refine PCB.of_body Tryz.func40 rfl (by decide) Tryz.ntmps40 Tryz.results40 rfl rfl rfl ?_ rfl rfl
  repeat' (first | (simp only [go_sem, zA, zB, zC, zD, zE, zF, zG, reduceCtorEq, zH, zI, zJ, zK, zL, List.length_map, hw0]; all_goals fail_if_success guard_target =ₛ False) | (with_reducible first | ((first | refine seqVC_stepN rfl ?_ | refine AWP.seq ?_ | refine AWP.seqR (by kernel_rfl) ?_ | refine parVC_stepN rfl ?_ | refine parEVC_stepN rfl ?_ | refine genVC_stepN rfl ?_); intro K hK) | ((first | refine hK _ _ _ ?_ | refine hK _ _ ?_ | refine hK _ ?_); clear hK K) | refine seqVC_nil ?_ | refine parVC_nil ?_ | refine parEVC_nil ?_ | refine genVC_nil ?_ | refine AWP.block ?_ | (refine AWP.cond (by with_unfolding_all rfl) ?_ ?_ <;> intro h <;> (try simp only [zM, zN] at h) <;> try exact absurd h (by decide)) | refine AWP.skip ?_ | refine AWP.ret ?_ | refine AWP.exit ?_ | refine ⟨_, refNil_c, ?_⟩ | (refine AWP.segP (id := 5) 6 mixed (by kernel_rfl) fun K hK => ?_; simp only [List.take_succ_cons, List.take_zero, List.drop_succ_cons, List.drop_zero]) | refine AWP.parR mixed (by kernel_rfl) fun K hK => ?_ | refine ⟨(by kernel_rfl : depB _ _ _ = true), ?_⟩ | refine Or.inl ?_) | (clear hK K))
  refine AWP.loopF (X := Int × Val) (fun x => [(4, I .i64 x.1)]) (fun x => [(3, .cells ((encVal x.2).map Cell.dat))]) [0, 2, 3] [2] (fun x => ∃ k : Nat, x.1 = (k : Int) - 1 ∧ k ≤ l.length ∧ x.2 = listV (l.drop k)) (fun x => (x.1 + 1).toNat) (((l.length : Int) - 1, nilVal)) (by simp only [go_sem, zA, zB, zC, zD, zE, zF, zG, reduceCtorEq, zH, zI, zJ, zK, zL]; exact Gh.to [] (by repeat (first | exact trivial | refine ⟨rfl, ?_⟩ | refine ⟨by (simp only [go_sem, zA, zB, zC, zD, zE, zF, zG, reduceCtorEq, zH, zI, zJ, zK, zL, List.length_append, List.length_map, List.length_cons, List.length_nil, Nat.zero_add]) <;> rfl, ?_⟩)) (by repeat (first | exact trivial | refine ⟨rfl, ?_⟩ | refine ⟨by (simp only [go_sem, zA, zB, zC, zD, zE, zF, zG, reduceCtorEq, zH, zI, zJ, zK, zL, List.length_append, List.length_map, List.length_cons, List.length_nil, Nat.zero_add]) <;> rfl, ?_⟩)) rfl rfl rfl) ?_ ?_
  · exact ⟨l.length, rfl, Nat.le_refl _, by simp [listV]⟩
  rintro ⟨i, acc⟩ ⟨k, hi, hk, ha⟩
  simp only at hi ha
  simp only [go_sem, zA, zB, zC, zD, zE, zF, zG, reduceCtorEq, zH, zI, zJ, zK, zL]
  cases k with
  | zero =>
    have hi' : i = -1 := by omega
    subst hi'
    repeat' (first | (simp only [go_sem, zA, zB, zC, zD, zE, zF, zG, reduceCtorEq, zH, zI, zJ, zK, zL, List.length_map, Int.reduceLE, Int.reduceNeg]; all_goals fail_if_success guard_target =ₛ False) | (with_reducible first | ((first | refine seqVC_stepN rfl ?_ | refine AWP.seq ?_ | refine AWP.seqR (by kernel_rfl) ?_ | refine parVC_stepN rfl ?_ | refine parEVC_stepN rfl ?_ | refine genVC_stepN rfl ?_); intro K hK) | ((first | refine hK _ _ _ ?_ | refine hK _ _ ?_ | refine hK _ ?_); clear hK K) | refine seqVC_nil ?_ | refine parVC_nil ?_ | refine parEVC_nil ?_ | refine genVC_nil ?_ | refine AWP.block ?_ | (refine AWP.cond (by with_unfolding_all rfl) ?_ ?_ <;> intro h <;> (try simp only [zM, zN] at h) <;> try exact absurd h (by decide)) | refine AWP.skip ?_ | refine AWP.ret ?_ | refine AWP.exit ?_ | (refine AWP.segP (id := 5) 6 mixed (by kernel_rfl) fun K hK => ?_; simp only [List.take_succ_cons, List.take_zero, List.drop_succ_cons, List.drop_zero]) | refine AWP.parR mixed (by kernel_rfl) fun K hK => ?_ | refine ⟨(by kernel_rfl : depB _ _ _ = true), ?_⟩ | refine Or.inl ?_) | (clear hK K))
    all_goals (first | exact fun _ h => (by cases h) | refine fin0 ?_)
    all_goals (rw [ha]; rfl)
  | succ m =>
    have hi' : i = (m : Int) := by omega
    subst hi'
    obtain ⟨x, hx, hx', _, _⟩ := at_lt (enc := encVal) (show m < l.length by omega)
    rw [show ((m + 1 : Nat) : Nat) = m + 1 from rfl] at ha
    have hge : decide ((0 : Int) ≤ (m : Int)) = true := by simp
    have hw1 : IntKind.i64.wrap ((m : Int) - 1) = (m : Int) - 1 := by rw [w64 (by omega)]
    have hc : PC Tryz.prog 48 [.st (encVal x), .st (encVal acc)] (.st (encVal (consVal x acc))) := refCons_c x acc
    repeat' (first | (simp only [go_sem, zA, zB, zC, zD, zE, zF, zG, reduceCtorEq, zH, zI, zJ, zK, zL, List.length_map, hge, hw1]; all_goals fail_if_success guard_target =ₛ False) | (with_reducible first | ((first | refine seqVC_stepN rfl ?_ | refine AWP.seq ?_ | refine AWP.seqR (by kernel_rfl) ?_ | refine parVC_stepN rfl ?_ | refine parEVC_stepN rfl ?_ | refine genVC_stepN rfl ?_); intro K hK) | ((first | refine hK _ _ _ ?_ | refine hK _ _ ?_ | refine hK _ ?_); clear hK K) | refine seqVC_nil ?_ | refine parVC_nil ?_ | refine parEVC_nil ?_ | refine genVC_nil ?_ | refine AWP.block ?_ | (refine AWP.cond (by with_unfolding_all rfl) ?_ ?_ <;> intro h <;> (try simp only [zM, zN] at h) <;> try exact absurd h (by decide)) | refine AWP.skip ?_ | refine AWP.ret ?_ | refine AWP.exit ?_ | refine ⟨_, hc, ?_⟩ | refine ⟨by omega, encVal x, hx', ?_⟩ | (refine AWP.segP (id := 5) 6 mixed (by kernel_rfl) fun K hK => ?_; simp only [List.take_succ_cons, List.take_zero, List.drop_succ_cons, List.drop_zero]) | refine AWP.parR mixed (by kernel_rfl) fun K hK => ?_ | refine ⟨(by kernel_rfl : depB _ _ _ = true), ?_⟩ | refine Or.inl ?_) | (clear hK K))
    all_goals (refine ⟨((m : Int) - 1, consVal x acc), by simp only; omega, ⟨m, rfl, by omega, ?_⟩, Gh.to [] (by repeat (first | exact trivial | refine ⟨rfl, ?_⟩ | refine ⟨by (simp only [go_sem, zA, zB, zC, zD, zE, zF, zG, reduceCtorEq, zH, zI, zJ, zK, zL, List.length_append, List.length_map, List.length_cons, List.length_nil, Nat.zero_add]) <;> rfl, ?_⟩)) (by repeat (first | exact trivial | refine ⟨rfl, ?_⟩ | refine ⟨by (simp only [go_sem, zA, zB, zC, zD, zE, zF, zG, reduceCtorEq, zH, zI, zJ, zK, zL, List.length_append, List.length_map, List.length_cons, List.length_nil, Nat.zero_add]) <;> rfl, ?_⟩)) rfl rfl rfl⟩)
    all_goals (simp only; rw [listV_drop hx, ha])
def pA : Pat := ⟨8, 0, [], [⟨2, 0, [72], [], []⟩, ⟨1, 0, [], [], []⟩], []⟩
def pZ : Pat := ⟨0, 0, [], [], []⟩
theorem pA_cnt : cntP pA = 3 := by decide
theorem pZ_cnt : cntP pZ = 1 := by decide
theorem pA_tree : treeP pA = true := by decide
theorem pA_coll : collP pA = [[72]] := by decide
theorem pA_ok : okP pA = true := by
  unfold okP dupP; rw [pA_cnt, pA_tree, pA_coll]; decide
theorem pA_sound : soundP pA = pA := by unfold soundP; rw [pA_ok]; rfl
theorem pA_names : namesP pA = [[72]] := by unfold namesP; rw [pA_sound, pA_coll]; decide
def vA : Val := consVal (intVal 5) nilVal
theorem vA_tree : treeB vA = true := by
  have t1 : treeB (intVal 5) = true := by rw [tree_leaf _ rfl rfl]; rfl
  have t2 : treeB nilVal = true := by rw [tree_leaf _ rfl rfl]; rfl
  rw [treeB_kids]
  show (nodeB vA && ((treeB (intVal 5) && (treeB nilVal && true)) && true)) = true
  rw [t1, t2]; rfl
theorem vA_sm : Sm vA := by unfold Sm; decide
theorem match_A : matchV pA vA = ([intVal 5], true) := by
  have hm : matchP pA vA [] = (true, [([72], intVal 5)]) := by rfl
  unfold matchV
  rw [pA_sound, hm, vA_tree, pA_names]
  rfl
theorem awake24_c : PC Tryz.prog 18 [] (Bo true) := by
  have hn : PC Tryz.prog 25 [I .i64 5] (.st (encVal (intVal 5))) := refInt_c 5
  have hl : PC Tryz.prog 40 [.one (.dat (.sl 7 [encVal (intVal 5)]))] (.st (encVal vA)) := refList_c [intVal 5] (by decide)
  have hp1 : PSm pA := by unfold PSm; rw [pA_cnt]; decide
  have hp2 : PSm pZ := by unfold PSm; rw [pZ_cnt]; decide
  have eA : encP pA = [.int .i64 8, .int .i64 0, .str [], .sl 5 [[.int .i64 2, .int .i64 0, .str [72], .sl 5 [], .sl 2 []], [.int .i64 1, .int .i64 0, .str [], .sl 5 [], .sl 2 []]], .sl 2 []] := by rfl
  have hM : PC Tryz.prog 39 [.st [.int .i64 8, .int .i64 0, .str [], .sl 5 [[.int .i64 2, .int .i64 0, .str [72], .sl 5 [], .sl 2 []], [.int .i64 1, .int .i64 0, .str [], .sl 5 [], .sl 2 []]], .sl 2 []], .st (encVal vA)] (.tup [.one (.dat (.sl 7 [[.int .i64 1, .int .i64 5, .str [], .sl 7 [], .sl 2 [], .sl 9 [], .sl 1 []]])), Bo true]) := by
    have h := Match_c pA vA hp1 vA_sm
    rw [match_A, show Pt pA = T.st (encP pA) from rfl, eA] at h
    have e5 : encVal (intVal 5) = [.int .i64 1, .int .i64 5, .str [], .sl 7 [], .sl 2 [], .sl 9 [], .sl 1 []] := by rw [encVal_eq]; rfl
    simp only [List.map_cons, List.map_nil, e5] at h
    exact h
  have hV : PC Tryz.prog 41 [.st [.int .i64 8, .int .i64 0, .str [], .sl 5 [[.int .i64 2, .int .i64 0, .str [72], .sl 5 [], .sl 2 []], [.int .i64 1, .int .i64 0, .str [], .sl 5 [], .sl 2 []]], .sl 2 []]] (I .i64 0) := by
    have h := validateP_c pA hp1
    have hc : codeP pA = 0 := of_decide_eq_true (by rw [codeP_ok, pA_ok])
    rw [hc, show Pt pA = T.st (encP pA) from rfl, eA] at h
    exact h
  have hZ : PC Tryz.prog 41 [.st [.int .i64 0, .int .i64 0, .str [], .sl 5 [], .sl 2 []]] (I .i64 1) := by
    have h := validateP_c pZ hp2
    have hc : codeP pZ = 1 := by
      have ht : treeP pZ = false := by decide
      unfold codeP; rw [pZ_cnt, ht]; decide
    rw [hc, show Pt pZ = T.st (encP pZ) from rfl, encP_eq] at h
    exact h
  refine PCB.of_body Tryz.func18 rfl (by decide) Tryz.ntmps18 Tryz.results18 rfl rfl rfl ?_ rfl rfl
  repeat' (first | (simp only [go_sem, zA, zB, zC, zD, zE, zF, zG, reduceCtorEq, zH, zI, zJ, zK, zL]; all_goals fail_if_success guard_target =ₛ False) | (with_reducible first | ((first | refine seqVC_stepN rfl ?_ | refine seqVC_stepG rfl (by with_unfolding_all rfl) ?_ | refine AWP.seq ?_ | refine AWP.seqR (by kernel_rfl) ?_ | refine parVC_stepN rfl ?_ | refine parVC_stepG rfl (by with_unfolding_all rfl) ?_ | refine parEVC_stepN rfl ?_ | refine parEVC_stepG rfl (by with_unfolding_all rfl) ?_ | refine genVC_stepN rfl ?_ | refine genVC_stepG rfl (by with_unfolding_all rfl) ?_); intro K hK) | ((first | refine hK _ _ _ ?_ | refine hK _ _ ?_ | refine hK _ ?_); clear hK K) | refine seqVC_nil ?_ | refine parVC_nil ?_ | refine parEVC_nil ?_ | refine genVC_nil ?_ | refine AWP.block ?_ | (refine AWP.cond (by with_unfolding_all rfl) ?_ ?_ <;> intro h <;> (try simp only [zM, zN] at h) <;> try exact absurd h (by decide)) | refine AWP.skip ?_ | refine AWP.ret ?_ | refine AWP.exit ?_ | (refine ⟨fun h => ?_, fun h => ?_⟩ <;> (try simp only [zM, zN] at h) <;> try simp only [h]) | refine ⟨_, hn, ?_⟩ | refine ⟨_, hl, ?_⟩ | refine ⟨_, hM, ?_⟩ | refine ⟨_, hV, ?_⟩ | refine ⟨_, hZ, ?_⟩ | refine AWP.parR mixed (by kernel_rfl) fun K hK => ?_ | refine ⟨(by kernel_rfl : depB _ _ _ = true), ?_⟩ | refine Or.inl ?_) | (clear hK K))
  all_goals (first | exact fun _ h => (by cases h) | (refine fin0 ?_; first | rfl | (simp only [zb, cond_true, cond_false, decide_true, decide_false] <;> rfl)))
end Go.Proofs.YteobojeemflggaaGreat
