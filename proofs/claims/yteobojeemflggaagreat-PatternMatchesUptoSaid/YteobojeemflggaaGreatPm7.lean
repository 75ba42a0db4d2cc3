/- A part of the proof. Conditions: those that each lemma states. -/
import Derived.Test.YteobojeemflggaaGreatPm6
import Derived.Test.YteobojeemflggaaGreatPm4
open Go.Proofs.Tryz renaming prog → zP
open List renaming length_append → lA, length_map → lB, length_cons → lC, length_nil → lD
open Go.Sx renaming seqVC_stepN → yA, seqVC_stepG → yB, parVC_stepN → yC, parVC_stepG → yD, parEVC_stepN → yE, parEVC_stepG → yF, genVC_stepN → yG, genVC_stepG → yH
open Go.Sx.AWP renaming seq → yS, seqR → yT, block → yU, cond → yV, skip → yW, ret → yX, exit → yY, parR → yZ
open Go.Sx.Gh renaming to → xG
open Nat renaming reduceBEq → zA, reduceBNe → zB, reduceAdd → zC, reduceSub → zD, reduceMul → zE, reduceLeDiff → zF, reduceLT → zG, reduceEqDiff → zH
open Int renaming reduceToNat → zI, reduceLE → zJ, reduceLT → zK, reduceEq → zL
open Bool renaming not_eq_true' → zM, not_eq_false' → zN
set_option linter.unusedSimpArgs false
set_option linter.unusedVariables false
set_option maxRecDepth 20000
set_option maxHeartbeats 64000000
namespace Go.Proofs.YteobojeemflggaaGreat
open Go Go.Sx
def kNum (k : Int) : Bool := decide (k = 1) || (decide (k = 4) || decide (k = 9))
def kText (k : Int) : Bool := decide (k = 2) || decide (k = 3)
def kKids (k : Int) : Bool := decide (k = 6) || (decide (k = 7) || decide (k = 8))
def kKeys (k : Int) : Bool := decide (k = 8)
def kEnts (k : Int) : Bool := decide (k = 9)
def kKnown (k : Int) : Bool := decide (1 ≤ k) && decide (k ≤ 9)
theorem kinds (k : Int) : k = 1 ∨ k = 2 ∨ k = 3 ∨ k = 4 ∨ k = 5 ∨ k = 6 ∨ k = 7 ∨ k = 8 ∨ k = 9 ∨ (decide (k = 1) = false ∧ decide (k = 2) = false ∧ decide (k = 3) = false ∧ decide (k = 4) = false ∧ decide (k = 5) = false ∧ decide (k = 6) = false ∧ decide (k = 7) = false ∧ decide (k = 8) = false ∧ decide (k = 9) = false ∧ kKnown k = false) := by
  unfold kKnown; simp only [decide_eq_false_iff_not, Bool.and_eq_false_iff]; omega
theorem uses_c (k : Int) : PC zP 150 [I .i64 k] (.tup [.st [.bool (kNum k), .bool (kText k), .bool (kKids k), .bool (kKeys k), .bool (kEnts k)], Bo (kKnown k)]) := by
  refine PCB.of_body Tryz.func150 rfl (by decide) Tryz.ntmps150 Tryz.results150 rfl rfl rfl ?_ rfl rfl
  rcases kinds k with rfl | rfl | rfl | rfl | rfl | rfl | rfl | rfl | rfl | ⟨h1, h2, h3, h4, h5, h6, h7, h8, h9, hk⟩
  iterate 9
    ·
      repeat' (first | (simp only [go_sem, zA, zB, zC, zD, zE, zF, zG, reduceCtorEq, zH, zI, zJ, zK, zL]; all_goals fail_if_success guard_target =ₛ False) | (with_reducible first | ((first | refine yA rfl ?_ | refine yS ?_ | refine yT (by kernel_rfl) ?_); intro K hK) | (apply hK; clear hK K) | refine yU ?_ | (refine yV (by with_unfolding_all rfl) ?_ ?_ <;> intro h <;> (try simp only [zM, zN] at h) <;> try exact absurd h (by decide)) | refine yW ?_ | refine yX ?_ | refine yY ?_ | refine Or.inl ?_) | (clear hK K))
      all_goals (first | exact fun _ h => (by cases h) | (refine fin0 ?_; first | rfl | (simp only [zb, cond_true, cond_false, decide_true, decide_false] <;> rfl)))
  ·
    repeat' (first | (simp only [go_sem, zA, zB, zC, zD, zE, zF, zG, reduceCtorEq, zH, zI, zJ, zK, zL, h1, h2, h3, h4, h5, h6, h7, h8, h9]; all_goals fail_if_success guard_target =ₛ False) | (with_reducible first | ((first | refine yA rfl ?_ | refine yS ?_ | refine yT (by kernel_rfl) ?_); intro K hK) | (apply hK; clear hK K) | refine yU ?_ | (refine yV (by with_unfolding_all rfl) ?_ ?_ <;> intro h <;> (try simp only [zM, zN] at h) <;> try exact absurd h (by decide)) | refine yW ?_ | refine yX ?_ | refine yY ?_ | refine Or.inl ?_) | (clear hK K))
    all_goals (first | exact fun _ h => (by cases h) | (refine fin0 ?_; first | rfl | (simp only [kNum, kText, kKids, kKeys, kEnts, h1, h2, h3, h4, h5, h6, h7, h8, h9, hk, zb, cond_true, cond_false, decide_true, decide_false] <;> rfl)))
def kidKind (v : Val) : Int := (v.kids[1]?.getD zeroVal).kind
def badFields (v : Val) : Bool := (!kNum v.kind && !decide (v.num = 0)) || ((!kText v.kind && !decide (v.text = [])) || ((!kKids v.kind && decide ((0 : Int) < v.kids.length)) || ((!kKeys v.kind && decide ((0 : Int) < v.keys.length)) || (!kEnts v.kind && decide ((0 : Int) < v.ents.length)))))
def bodyB (v : Val) : Bool :=
  bif decide (v.kind = 2) then decide ((v.text.length : Int) ≤ 64) else
  bif decide (v.kind = 3) then isAtomB v.text else
  bif decide (v.kind = 4) then decide (0 ≤ v.num) else
  bif decide (v.kind = 6) then decide ((v.kids.length : Int) ≤ 4) else
  bif decide (v.kind = 7) then decide ((v.kids.length : Int) = 2) && (decide (kidKind v = 5) || decide (kidKind v = 7)) else
  bif decide (v.kind = 8) then mapB v else
  bif decide (v.kind = 9) then funB v else true
def nodeB (v : Val) : Bool := kKnown v.kind && (labelsB v.labels && (!badFields v && bodyB v))
theorem validMap_e (v : Val) : PC zP 152 [.st [.int .i64 v.kind, .int .i64 v.num, .str v.text, .sl 7 (v.kids.map encVal), .sl 2 (v.keys.map encKey), .sl 9 (v.ents.map encEnt), .sl 1 (v.labels.map encStr)]] (Bo (mapB v)) := by
  rw [← encVal_eq]; exact validMap_c v
theorem validFunction_e (v : Val) : PC zP 153 [.st [.int .i64 v.kind, .int .i64 v.num, .str v.text, .sl 7 (v.kids.map encVal), .sl 2 (v.keys.map encKey), .sl 9 (v.ents.map encEnt), .sl 1 (v.labels.map encStr)]] (Bo (funB v)) := by
  rw [← encVal_eq]; exact validFunction_c v
theorem validNode_1 (v : Val) (hk : v.kind = 1) : PC zP 121 [.st (encVal v)] (Bo (nodeB v)) := by
  refine PCB.of_body Tryz.func121 rfl (by decide) Tryz.ntmps121 Tryz.results121 rfl rfl rfl ?_ rfl rfl
  repeat' (first | (simp only [go_sem, zA, zB, zC, zD, zE, zF, zG, reduceCtorEq, zH, zI, zJ, zK, zL, encVal_eq, hk, kNum, kText, kKids, kKeys, kEnts, kKnown, lB]; all_goals fail_if_success guard_target =ₛ False) | (with_reducible first | ((first | refine yA rfl ?_ | refine yB rfl ?_ | refine yS ?_ | refine yT (by kernel_rfl) ?_); intro K hK) | (apply hK; clear hK K) | refine yU ?_ | (refine yV (by with_unfolding_all rfl) ?_ ?_ <;> intro h <;> (try simp only [zM, zN] at h) <;> try exact absurd h (by decide)) | refine yW ?_ | refine yX ?_ | refine yY ?_ | (refine ⟨fun h => ?_, fun h => ?_⟩ <;> (try simp only [zM, zN] at h) <;> try simp only [h]) | refine ⟨_, uses_c 1, ?_⟩ | refine ⟨_, validLabels_c _, ?_⟩ | refine Or.inl ?_) | (clear hK K))
  all_goals (first | exact fun _ h => (by cases h) | (refine fin0 ?_; first | rfl | (simp only [nodeB, badFields, bodyB, kNum, kText, kKids, kKeys, kEnts, kKnown, hk, Int.reduceEq, Int.reduceLE, *, zb, cond_true, cond_false, decide_true, decide_false] <;> rfl)))
theorem validNode_2 (v : Val) (hk : v.kind = 2) : PC zP 121 [.st (encVal v)] (Bo (nodeB v)) := by
  refine PCB.of_body Tryz.func121 rfl (by decide) Tryz.ntmps121 Tryz.results121 rfl rfl rfl ?_ rfl rfl
  repeat' (first | (simp only [go_sem, zA, zB, zC, zD, zE, zF, zG, reduceCtorEq, zH, zI, zJ, zK, zL, encVal_eq, hk, kNum, kText, kKids, kKeys, kEnts, kKnown, lB]; all_goals fail_if_success guard_target =ₛ False) | (with_reducible first | ((first | refine yA rfl ?_ | refine yB rfl ?_ | refine yS ?_ | refine yT (by kernel_rfl) ?_); intro K hK) | (apply hK; clear hK K) | refine yU ?_ | (refine yV (by with_unfolding_all rfl) ?_ ?_ <;> intro h <;> (try simp only [zM, zN] at h) <;> try exact absurd h (by decide)) | refine yW ?_ | refine yX ?_ | refine yY ?_ | (refine ⟨fun h => ?_, fun h => ?_⟩ <;> (try simp only [zM, zN] at h) <;> try simp only [h]) | refine ⟨_, uses_c 2, ?_⟩ | refine ⟨_, validLabels_c _, ?_⟩ | refine Or.inl ?_) | (clear hK K))
  all_goals (first | exact fun _ h => (by cases h) | (refine fin0 ?_; first | rfl | (simp only [nodeB, badFields, bodyB, kNum, kText, kKids, kKeys, kEnts, kKnown, hk, Int.reduceEq, Int.reduceLE, *, zb, cond_true, cond_false, decide_true, decide_false] <;> rfl)))
theorem validNode_3 (v : Val) (hk : v.kind = 3) : PC zP 121 [.st (encVal v)] (Bo (nodeB v)) := by
  refine PCB.of_body Tryz.func121 rfl (by decide) Tryz.ntmps121 Tryz.results121 rfl rfl rfl ?_ rfl rfl
  repeat' (first | (simp only [go_sem, zA, zB, zC, zD, zE, zF, zG, reduceCtorEq, zH, zI, zJ, zK, zL, encVal_eq, hk, kNum, kText, kKids, kKeys, kEnts, kKnown, lB]; all_goals fail_if_success guard_target =ₛ False) | (with_reducible first | ((first | refine yA rfl ?_ | refine yB rfl ?_ | refine yS ?_ | refine yT (by kernel_rfl) ?_); intro K hK) | (apply hK; clear hK K) | refine yU ?_ | (refine yV (by with_unfolding_all rfl) ?_ ?_ <;> intro h <;> (try simp only [zM, zN] at h) <;> try exact absurd h (by decide)) | refine yW ?_ | refine yX ?_ | refine yY ?_ | (refine ⟨fun h => ?_, fun h => ?_⟩ <;> (try simp only [zM, zN] at h) <;> try simp only [h]) | refine ⟨_, uses_c 3, ?_⟩ | refine ⟨_, validLabels_c _, ?_⟩ | refine ⟨_, identIsAtom_c _, ?_⟩ | refine Or.inl ?_) | (clear hK K))
  all_goals (first | exact fun _ h => (by cases h) | (refine fin0 ?_; first | rfl | (simp only [nodeB, badFields, bodyB, kNum, kText, kKids, kKeys, kEnts, kKnown, hk, Int.reduceEq, Int.reduceLE, *, zb, cond_true, cond_false, decide_true, decide_false] <;> rfl)))
theorem validNode_4 (v : Val) (hk : v.kind = 4) : PC zP 121 [.st (encVal v)] (Bo (nodeB v)) := by
  refine PCB.of_body Tryz.func121 rfl (by decide) Tryz.ntmps121 Tryz.results121 rfl rfl rfl ?_ rfl rfl
  repeat' (first | (simp only [go_sem, zA, zB, zC, zD, zE, zF, zG, reduceCtorEq, zH, zI, zJ, zK, zL, encVal_eq, hk, kNum, kText, kKids, kKeys, kEnts, kKnown, lB]; all_goals fail_if_success guard_target =ₛ False) | (with_reducible first | ((first | refine yA rfl ?_ | refine yB rfl ?_ | refine yS ?_ | refine yT (by kernel_rfl) ?_); intro K hK) | (apply hK; clear hK K) | refine yU ?_ | (refine yV (by with_unfolding_all rfl) ?_ ?_ <;> intro h <;> (try simp only [zM, zN] at h) <;> try exact absurd h (by decide)) | refine yW ?_ | refine yX ?_ | refine yY ?_ | (refine ⟨fun h => ?_, fun h => ?_⟩ <;> (try simp only [zM, zN] at h) <;> try simp only [h]) | refine ⟨_, uses_c 4, ?_⟩ | refine ⟨_, validLabels_c _, ?_⟩ | refine Or.inl ?_) | (clear hK K))
  all_goals (first | exact fun _ h => (by cases h) | (refine fin0 ?_; first | rfl | (simp only [nodeB, badFields, bodyB, kNum, kText, kKids, kKeys, kEnts, kKnown, hk, Int.reduceEq, Int.reduceLE, *, zb, cond_true, cond_false, decide_true, decide_false] <;> rfl)))
theorem validNode_5 (v : Val) (hk : v.kind = 5) : PC zP 121 [.st (encVal v)] (Bo (nodeB v)) := by
  refine PCB.of_body Tryz.func121 rfl (by decide) Tryz.ntmps121 Tryz.results121 rfl rfl rfl ?_ rfl rfl
  repeat' (first | (simp only [go_sem, zA, zB, zC, zD, zE, zF, zG, reduceCtorEq, zH, zI, zJ, zK, zL, encVal_eq, hk, kNum, kText, kKids, kKeys, kEnts, kKnown, lB]; all_goals fail_if_success guard_target =ₛ False) | (with_reducible first | ((first | refine yA rfl ?_ | refine yB rfl ?_ | refine yS ?_ | refine yT (by kernel_rfl) ?_); intro K hK) | (apply hK; clear hK K) | refine yU ?_ | (refine yV (by with_unfolding_all rfl) ?_ ?_ <;> intro h <;> (try simp only [zM, zN] at h) <;> try exact absurd h (by decide)) | refine yW ?_ | refine yX ?_ | refine yY ?_ | (refine ⟨fun h => ?_, fun h => ?_⟩ <;> (try simp only [zM, zN] at h) <;> try simp only [h]) | refine ⟨_, uses_c 5, ?_⟩ | refine ⟨_, validLabels_c _, ?_⟩ | refine Or.inl ?_) | (clear hK K))
  all_goals (first | exact fun _ h => (by cases h) | (refine fin0 ?_; first | rfl | (simp only [nodeB, badFields, bodyB, kNum, kText, kKids, kKeys, kEnts, kKnown, hk, Int.reduceEq, Int.reduceLE, *, zb, cond_true, cond_false, decide_true, decide_false] <;> rfl)))
theorem validNode_6 (v : Val) (hk : v.kind = 6) : PC zP 121 [.st (encVal v)] (Bo (nodeB v)) := by
  refine PCB.of_body Tryz.func121 rfl (by decide) Tryz.ntmps121 Tryz.results121 rfl rfl rfl ?_ rfl rfl
  repeat' (first | (simp only [go_sem, zA, zB, zC, zD, zE, zF, zG, reduceCtorEq, zH, zI, zJ, zK, zL, encVal_eq, hk, kNum, kText, kKids, kKeys, kEnts, kKnown, lB]; all_goals fail_if_success guard_target =ₛ False) | (with_reducible first | ((first | refine yA rfl ?_ | refine yB rfl ?_ | refine yS ?_ | refine yT (by kernel_rfl) ?_); intro K hK) | (apply hK; clear hK K) | refine yU ?_ | (refine yV (by with_unfolding_all rfl) ?_ ?_ <;> intro h <;> (try simp only [zM, zN] at h) <;> try exact absurd h (by decide)) | refine yW ?_ | refine yX ?_ | refine yY ?_ | (refine ⟨fun h => ?_, fun h => ?_⟩ <;> (try simp only [zM, zN] at h) <;> try simp only [h]) | refine ⟨_, uses_c 6, ?_⟩ | refine ⟨_, validLabels_c _, ?_⟩ | refine Or.inl ?_) | (clear hK K))
  all_goals (first | exact fun _ h => (by cases h) | (refine fin0 ?_; first | rfl | (simp only [nodeB, badFields, bodyB, kNum, kText, kKids, kKeys, kEnts, kKnown, hk, Int.reduceEq, Int.reduceLE, *, zb, cond_true, cond_false, decide_true, decide_false] <;> rfl)))
theorem validNode_7 (v : Val) (hk : v.kind = 7) : PC zP 121 [.st (encVal v)] (Bo (nodeB v)) := by
  cases h2 : decide ((v.kids.length : Int) = 2) with
  | true =>
    have hl : v.kids.length = 2 := by have := of_decide_eq_true h2; omega
    obtain ⟨y, hy, hy', _, _⟩ := at_lt (enc := encVal) (show 1 < v.kids.length by omega)
    have hkk : kidKind v = y.kind := by unfold kidKind; rw [hy]; rfl
    cases h5 : decide (y.kind = 5) <;> cases h7 : decide (y.kind = 7)
    all_goals
      refine PCB.of_body Tryz.func121 rfl (by decide) Tryz.ntmps121 Tryz.results121 rfl rfl rfl ?_ rfl rfl
      repeat' (first | (simp only [go_sem, zA, zB, zC, zD, zE, zF, zG, reduceCtorEq, zH, zI, zJ, zK, zL, encVal_eq, hk, h2, h5, h7, kNum, kText, kKids, kKeys, kEnts, kKnown, lB]; all_goals fail_if_success guard_target =ₛ False) | (with_reducible first | ((first | refine yA rfl ?_ | refine yB rfl ?_ | refine yS ?_ | refine yT (by kernel_rfl) ?_); intro K hK) | (apply hK; clear hK K) | refine yU ?_ | (refine yV (by with_unfolding_all rfl) ?_ ?_ <;> intro h <;> (try simp only [zM, zN] at h) <;> try exact absurd h (by decide)) | refine yW ?_ | refine yX ?_ | refine yY ?_ | (refine ⟨fun h => ?_, fun h => ?_⟩ <;> (try simp only [zM, zN] at h) <;> try simp only [h]) | refine ⟨_, uses_c 7, ?_⟩ | refine ⟨_, validLabels_c _, ?_⟩ | refine ⟨encVal y, hy', ?_⟩ | refine Or.inl ?_) | (clear hK K))
      all_goals (first | exact fun _ h => (by cases h) | (refine fin0 ?_; first | rfl | (simp only [nodeB, badFields, bodyB, kNum, kText, kKids, kKeys, kEnts, kKnown, hk, Int.reduceEq, Int.reduceLE, *, hkk, zb, cond_true, cond_false, decide_true, decide_false] <;> rfl)))
  | false =>
    refine PCB.of_body Tryz.func121 rfl (by decide) Tryz.ntmps121 Tryz.results121 rfl rfl rfl ?_ rfl rfl
    repeat' (first | (simp only [go_sem, zA, zB, zC, zD, zE, zF, zG, reduceCtorEq, zH, zI, zJ, zK, zL, encVal_eq, hk, h2, kNum, kText, kKids, kKeys, kEnts, kKnown, lB]; all_goals fail_if_success guard_target =ₛ False) | (with_reducible first | ((first | refine yA rfl ?_ | refine yB rfl ?_ | refine yS ?_ | refine yT (by kernel_rfl) ?_); intro K hK) | (apply hK; clear hK K) | refine yU ?_ | (refine yV (by with_unfolding_all rfl) ?_ ?_ <;> intro h <;> (try simp only [zM, zN] at h) <;> try exact absurd h (by decide)) | refine yW ?_ | refine yX ?_ | refine yY ?_ | (refine ⟨fun h => ?_, fun h => ?_⟩ <;> (try simp only [zM, zN] at h) <;> try simp only [h]) | refine ⟨_, uses_c 7, ?_⟩ | refine ⟨_, validLabels_c _, ?_⟩ | refine Or.inl ?_) | (clear hK K))
    all_goals (first | exact fun _ h => (by cases h) | (refine fin0 ?_; first | rfl | (simp only [nodeB, badFields, bodyB, kNum, kText, kKids, kKeys, kEnts, kKnown, hk, Int.reduceEq, Int.reduceLE, *, zb, cond_true, cond_false, decide_true, decide_false] <;> rfl)))
theorem validNode_8 (v : Val) (hk : v.kind = 8) : PC zP 121 [.st (encVal v)] (Bo (nodeB v)) := by
  have hmap := validMap_e v
  rw [hk] at hmap
  refine PCB.of_body Tryz.func121 rfl (by decide) Tryz.ntmps121 Tryz.results121 rfl rfl rfl ?_ rfl rfl
  repeat' (first | (simp only [go_sem, zA, zB, zC, zD, zE, zF, zG, reduceCtorEq, zH, zI, zJ, zK, zL, encVal_eq, hk, kNum, kText, kKids, kKeys, kEnts, kKnown, lB]; all_goals fail_if_success guard_target =ₛ False) | (with_reducible first | ((first | refine yA rfl ?_ | refine yB rfl ?_ | refine yS ?_ | refine yT (by kernel_rfl) ?_); intro K hK) | (apply hK; clear hK K) | refine yU ?_ | (refine yV (by with_unfolding_all rfl) ?_ ?_ <;> intro h <;> (try simp only [zM, zN] at h) <;> try exact absurd h (by decide)) | refine yW ?_ | refine yX ?_ | refine yY ?_ | (refine ⟨fun h => ?_, fun h => ?_⟩ <;> (try simp only [zM, zN] at h) <;> try simp only [h]) | refine ⟨_, uses_c 8, ?_⟩ | refine ⟨_, validLabels_c _, ?_⟩ | refine ⟨_, hmap, ?_⟩ | refine Or.inl ?_) | (clear hK K))
  all_goals (first | exact fun _ h => (by cases h) | (refine fin0 ?_; first | rfl | (simp only [nodeB, badFields, bodyB, kNum, kText, kKids, kKeys, kEnts, kKnown, hk, Int.reduceEq, Int.reduceLE, *, zb, cond_true, cond_false, decide_true, decide_false] <;> rfl)))
theorem validNode_9 (v : Val) (hk : v.kind = 9) : PC zP 121 [.st (encVal v)] (Bo (nodeB v)) := by
  have hfun := validFunction_e v
  rw [hk] at hfun
  refine PCB.of_body Tryz.func121 rfl (by decide) Tryz.ntmps121 Tryz.results121 rfl rfl rfl ?_ rfl rfl
  repeat' (first | (simp only [go_sem, zA, zB, zC, zD, zE, zF, zG, reduceCtorEq, zH, zI, zJ, zK, zL, encVal_eq, hk, kNum, kText, kKids, kKeys, kEnts, kKnown, lB]; all_goals fail_if_success guard_target =ₛ False) | (with_reducible first | ((first | refine yA rfl ?_ | refine yB rfl ?_ | refine yS ?_ | refine yT (by kernel_rfl) ?_); intro K hK) | (apply hK; clear hK K) | refine yU ?_ | (refine yV (by with_unfolding_all rfl) ?_ ?_ <;> intro h <;> (try simp only [zM, zN] at h) <;> try exact absurd h (by decide)) | refine yW ?_ | refine yX ?_ | refine yY ?_ | (refine ⟨fun h => ?_, fun h => ?_⟩ <;> (try simp only [zM, zN] at h) <;> try simp only [h]) | refine ⟨_, uses_c 9, ?_⟩ | refine ⟨_, validLabels_c _, ?_⟩ | refine ⟨_, hfun, ?_⟩ | refine Or.inl ?_) | (clear hK K))
  all_goals (first | exact fun _ h => (by cases h) | (refine fin0 ?_; first | rfl | (simp only [nodeB, badFields, bodyB, kNum, kText, kKids, kKeys, kEnts, kKnown, hk, Int.reduceEq, Int.reduceLE, *, zb, cond_true, cond_false, decide_true, decide_false] <;> rfl)))
theorem validNode_c (v : Val) : PC zP 121 [.st (encVal v)] (Bo (nodeB v)) := by
  rcases kinds v.kind with h | h | h | h | h | h | h | h | h | ⟨h1, h2, h3, h4, h5, h6, h7, h8, h9, hk⟩
  · exact validNode_1 v h
  · exact validNode_2 v h
  · exact validNode_3 v h
  · exact validNode_4 v h
  · exact validNode_5 v h
  · exact validNode_6 v h
  · exact validNode_7 v h
  · exact validNode_8 v h
  · exact validNode_9 v h
  ·
    refine PCB.of_body Tryz.func121 rfl (by decide) Tryz.ntmps121 Tryz.results121 rfl rfl rfl ?_ rfl rfl
    repeat' (first | (simp only [go_sem, zA, zB, zC, zD, zE, zF, zG, reduceCtorEq, zH, zI, zJ, zK, zL, encVal_eq, hk]; all_goals fail_if_success guard_target =ₛ False) | (with_reducible first | ((first | refine yA rfl ?_ | refine yB rfl ?_ | refine yS ?_ | refine yT (by kernel_rfl) ?_); intro K hK) | (apply hK; clear hK K) | refine yU ?_ | (refine yV (by with_unfolding_all rfl) ?_ ?_ <;> intro h <;> (try simp only [zM, zN] at h) <;> try exact absurd h (by decide)) | refine yW ?_ | refine yX ?_ | refine yY ?_ | (refine ⟨fun h => ?_, fun h => ?_⟩ <;> (try simp only [zM, zN] at h) <;> try simp only [h]) | refine ⟨_, uses_c _, ?_⟩ | refine Or.inl ?_) | (clear hK K))
    all_goals (first | exact fun _ h => (by cases h) | (refine fin0 ?_; first | rfl | (simp only [nodeB, hk, zb, cond_true, cond_false, decide_true, decide_false] <;> rfl)))
def goB {α : Type} (f : α → α → Int) (p : α → Bool) : Option α → List α → Bool
  | _, [] => true
  | none, x :: l => p x && goB f p (some x) l
  | some y, x :: l => p x && (decide (f y x < 0) && goB f p (some x) l)
def prevAt {α : Type} (l : List α) : Nat → Option α
  | 0 => none
  | k + 1 => l[k]?
theorem goB_some {α : Type} (f : α → α → Int) (p : α → Bool) : ∀ (l : List α) (y : α), goB f p (some y) l = (ascB f (y :: l) && l.all p)
  | [], y => rfl
  | x :: l, y => by
    rw [goB, goB_some f p l x, List.all_cons]
    show _ = ((decide (f y x < 0) && ascB f (x :: l)) && _)
    cases p x <;> cases decide (f y x < 0) <;> cases ascB f (x :: l) <;> cases l.all p <;> rfl
theorem goB_none {α : Type} (f : α → α → Int) (p : α → Bool) (l : List α) : goB f p none l = (ascB f l && l.all p) := by
  cases l with
  | nil => rfl
  | cons x l =>
    rw [goB, goB_some, List.all_cons]
    cases p x <;> cases ascB f (x :: l) <;> cases l.all p <;> rfl
theorem goB_zero {α : Type} {f : α → α → Int} {p : α → Bool} {l : List α} {k : Nat} {x : α} (h0 : k = 0) (hx : l[k]? = some x) : goB f p (prevAt l k) (l.drop k) = (p x && goB f p (prevAt l (k + 1)) (l.drop (k + 1))) := by
  subst h0
  cases l with
  | nil => simp at hx
  | cons y l => simp at hx; subst hx; rfl
theorem goB_succ {α : Type} {f : α → α → Int} {p : α → Bool} {l : List α} {k : Nat} {x y : α} (hy : l[k]? = some y) (hx : l[k + 1]? = some x) : goB f p (prevAt l (k + 1)) (l.drop (k + 1)) = (p x && (decide (f y x < 0) && goB f p (prevAt l (k + 2)) (l.drop (k + 2)))) := by
  obtain ⟨h1, e1⟩ := List.getElem?_eq_some_iff.1 hx
  rw [List.drop_eq_getElem_cons h1, e1]
  simp only [prevAt, hy, hx]
  rfl
theorem goB_end {α : Type} {f : α → α → Int} {p : α → Bool} {l : List α} {o : Option α} : goB f p o (l.drop l.length) = true := by
  rw [List.drop_length]; cases o <;> rfl
theorem less_dec (a b : List UInt8) : Op.bytesLess a b = decide (Lib.compareBytes a b < 0) := by
  rw [bytesLess_cmp]
  rcases cmpB_range a b with h | h | h <;> simp [h]
def treeB (v : Val) : Bool := nodeB v && (partsV v).attach.all fun p => treeB p.1
termination_by bulkV v
decreasing_by exact bulk_part p.2
theorem treeB_eq (v : Val) : treeB v = (nodeB v && (partsV v).all treeB) := by
  rw [treeB]; congr 1
  rw [← Bool.coe_iff_coe]; simp
def treeE (e : List Val × Bool × Val) : Bool := e.1.all treeB && (e.2.1 || treeB e.2.2)
theorem treeB_kids (v : Val) : treeB v = (nodeB v && (v.kids.all treeB && v.ents.all treeE)) := by
  rw [treeB_eq, partsV, List.all_append, List.all_flatMap]
  have : ∀ e : List Val × Bool × Val, (partE e).all treeB = treeE e := by
    intro e
    unfold partE treeE
    cases e.2.1 <;> simp
  simp only [this]
theorem Sm.part {v p : Val} (h : Sm v) (hp : p ∈ partsV v) : Sm p := by unfold Sm at *; have := bulk_part hp; omega
theorem validTree_c (v : Val) (hv : Sm v) : PC zP 97 [.st (encVal v)] (Bo (treeB v)) := by
  have ih : ∀ p ∈ partsV v, PC zP 97 [.st (encVal p)] (Bo (treeB p)) := fun p hp => validTree_c p (hv.part hp)
  have hn := validNode_c v
  have hp := parts_c v hv
  rw [treeB_eq]
  refine PCB.of_body Tryz.func97 rfl (by decide) Tryz.ntmps97 Tryz.results97 rfl rfl rfl ?_ rfl rfl
  cases hz : nodeB v
  ·
    repeat' (first | (simp only [go_sem, zA, zB, zC, zD, zE, zF, zG, reduceCtorEq, zH, zI, zJ, zK, zL, hz]; all_goals fail_if_success guard_target =ₛ False) | (with_reducible first | ((first | refine yA rfl ?_ | refine yS ?_ | refine yT (by kernel_rfl) ?_); intro K hK) | (apply hK; clear hK K) | refine yU ?_ | (refine yV (by with_unfolding_all rfl) ?_ ?_ <;> intro h <;> (try simp only [zM, zN] at h) <;> try exact absurd h (by decide)) | refine yW ?_ | refine yX ?_ | refine yY ?_ | refine ⟨_, hn, ?_⟩ | refine Or.inl ?_) | (clear hK K))
    all_goals (first | exact fun _ h => (by cases h) | (refine fin0 ?_; first | rfl | (simp only [hz, zb, cond_true, cond_false, decide_true, decide_false] <;> rfl)))
  ·
    repeat' (first | (simp only [go_sem, zA, zB, zC, zD, zE, zF, zG, reduceCtorEq, zH, zI, zJ, zK, zL, hz, lB]; all_goals fail_if_success guard_target =ₛ False) | (with_reducible first | ((first | refine yA rfl ?_ | refine yS ?_ | refine yT (by kernel_rfl) ?_); intro K hK) | (apply hK; clear hK K) | refine yU ?_ | (refine yV (by with_unfolding_all rfl) ?_ ?_ <;> intro h <;> (try simp only [zM, zN] at h) <;> try exact absurd h (by decide)) | refine yW ?_ | refine yX ?_ | refine yY ?_ | refine ⟨_, hn, ?_⟩ | refine ⟨_, hp, ?_⟩ | refine Or.inl ?_) | (clear hK K))
    refine AWP.len 9 rfl fun hlen0 => ?_
    (try rw [lB] at hlen0)
    refine AWP.range (S := Unit) (partsV v) encVal (fun k s => (11, I .i64 (k : Nat)) :: []) (fun k s => []) [9, 10] [] (fun k s => (partsV v).all treeB = ((partsV v).drop k).all treeB) (()) (by simp only [go_sem, zA, zB, zC, zD, zE, zF, zG, reduceCtorEq, zH, zI, zJ, zK, zL]; exact (by refine xG [] ?_ ?_ rfl rfl rfl <;> repeat first | exact trivial | refine ⟨rfl, ?_⟩ | refine ⟨by (simp only [go_sem, zA, zB, zC, zD, zE, zF, zG, reduceCtorEq, zH, zI, zJ, zK, zL, lA, lB, lC, lD, Nat.zero_add]) <;> rfl, ?_⟩)) ?_ ?_ ?_
    · rfl
    · intro k s x hlt hx hx' hb hok
      simp only [go_sem, zA, zB, zC, zD, zE, zF, zG, reduceCtorEq, zH, zI, zJ, zK, zL]
      have hix := ih x (List.mem_of_getElem? hx)
      rw [all_step hx] at hok
      cases hy : treeB x <;> simp only [hy, Bool.true_and, Bool.false_and] at hok
      all_goals
        repeat' (first | (simp only [go_sem, zA, zB, zC, zD, zE, zF, zG, reduceCtorEq, zH, zI, zJ, zK, zL, lB, hb, hy]; all_goals fail_if_success guard_target =ₛ False) | (with_reducible first | ((first | refine yA rfl ?_ | refine yS ?_ | refine yT (by kernel_rfl) ?_); intro K hK) | (apply hK; clear hK K) | refine yU ?_ | (refine yV (by with_unfolding_all rfl) ?_ ?_ <;> intro h <;> (try simp only [zM, zN] at h) <;> try exact absurd h (by decide)) | refine yW ?_ | refine yX ?_ | refine yY ?_ | refine ⟨_, hix, ?_⟩ | refine ⟨by omega, encVal x, hx', ?_⟩ | refine Or.inl ?_) | (clear hK K))
      ·
        all_goals (first | exact fun _ h => (by cases h) | (refine fin0 ?_; first | rfl | (simp only [hok, hz, zb, cond_true, cond_false, decide_true, decide_false] <;> rfl)))
      ·
        all_goals (rw [wrap_succ hlt hlen0])
        all_goals (refine ⟨(), ?_, (by refine xG [] ?_ ?_ rfl rfl rfl <;> repeat first | exact trivial | refine ⟨rfl, ?_⟩ | refine ⟨by (simp only [go_sem, zA, zB, zC, zD, zE, zF, zG, reduceCtorEq, zH, zI, zJ, zK, zL, lA, lB, lC, lD, Nat.zero_add]) <;> rfl, ?_⟩)⟩)
        all_goals exact hok
    · intro s hb hok
      simp only [go_sem, zA, zB, zC, zD, zE, zF, zG, reduceCtorEq, zH, zI, zJ, zK, zL]
      rw [all_end] at hok
      repeat' (first | (simp only [go_sem, zA, zB, zC, zD, zE, zF, zG, reduceCtorEq, zH, zI, zJ, zK, zL, lB, hb]; all_goals fail_if_success guard_target =ₛ False) | (with_reducible first | ((first | refine yA rfl ?_ | refine yS ?_ | refine yT (by kernel_rfl) ?_); intro K hK) | (apply hK; clear hK K) | refine yU ?_ | (refine yV (by with_unfolding_all rfl) ?_ ?_ <;> intro h <;> (try simp only [zM, zN] at h) <;> try exact absurd h (by decide)) | refine yW ?_ | refine yX ?_ | refine yY ?_ | refine Or.inl ?_) | (clear hK K))
      all_goals (first | exact fun _ h => (by cases h) | (refine fin0 ?_; first | rfl | (simp only [hok, hz, zb, cond_true, cond_false, decide_true, decide_false] <;> rfl)))
termination_by bulkV v
decreasing_by exact bulk_part hp
theorem validate_c (v : Val) (hv : Sm v) : PC zP 65 [.st (encVal v)] (.one (.dat (.int .i64 (bif treeB v then 0 else 1)))) := by
  have hn := validTree_c v hv
  refine PCB.of_body Tryz.func65 rfl (by decide) Tryz.ntmps65 Tryz.results65 rfl rfl rfl ?_ rfl rfl
  cases hz : treeB v
  all_goals
    repeat' (first | (simp only [go_sem, zA, zB, zC, zD, zE, zF, zG, reduceCtorEq, zH, zI, zJ, zK, zL, hz]; all_goals fail_if_success guard_target =ₛ False) | (with_reducible first | ((first | refine yA rfl ?_ | refine yS ?_ | refine yT (by kernel_rfl) ?_); intro K hK) | (apply hK; clear hK K) | refine yU ?_ | (refine yV (by with_unfolding_all rfl) ?_ ?_ <;> intro h <;> (try simp only [zM, zN] at h) <;> try exact absurd h (by decide)) | refine yW ?_ | refine yX ?_ | refine yY ?_ | refine ⟨_, hn, ?_⟩ | refine Or.inl ?_) | (clear hK K))
  all_goals (first | exact fun _ h => (by cases h) | (refine fin0 ?_; first | rfl | (simp only [hz, zb, cond_true, cond_false, decide_true, decide_false] <;> rfl)))
theorem refEqual_c (a b : Val) : PC zP 94 [.st (encVal a), .st (encVal b)] (Bo (decide (valC a b = 0))) := by
  have h := refCompare_c a b
  refine PCB.of_body Tryz.func94 rfl (by decide) Tryz.ntmps94 Tryz.results94 rfl rfl rfl ?_ rfl rfl
  repeat' (first | (simp only [go_sem, zA, zB, zC, zD, zE, zF, zG, reduceCtorEq, zH, zI, zJ, zK, zL]; all_goals fail_if_success guard_target =ₛ False) | (with_reducible first | ((first | refine yA rfl ?_ | refine yS ?_ | refine yT (by kernel_rfl) ?_); intro K hK) | (apply hK; clear hK K) | refine yU ?_ | (refine yV (by with_unfolding_all rfl) ?_ ?_ <;> intro h <;> (try simp only [zM, zN] at h) <;> try exact absurd h (by decide)) | refine yW ?_ | refine yX ?_ | refine yY ?_ | refine ⟨_, h, ?_⟩ | refine Or.inl ?_) | (clear hK K))
  all_goals (first | exact fun _ h => (by cases h) | refine fin0 ?_)
  all_goals rfl
def numP (k : Int) : Bool := decide (k = 3)
def textP (k : Int) : Bool := decide (k = 2) || (decide (k = 4) || (decide (k = 5) || decide (k = 10)))
def kidsP (k : Int) : Bool := decide (k = 7) || (decide (k = 8) || (decide (k = 9) || decide (k = 10)))
def keysP (k : Int) : Bool := decide (k = 9)
theorem pkinds (k : Int) : k = 1 ∨ k = 2 ∨ k = 3 ∨ k = 4 ∨ k = 5 ∨ k = 6 ∨ k = 7 ∨ k = 8 ∨ k = 9 ∨ k = 10 ∨ (decide (k = 1) = false ∧ decide (k = 2) = false ∧ decide (k = 3) = false ∧ decide (k = 4) = false ∧ decide (k = 5) = false ∧ decide (k = 6) = false ∧ decide (k = 7) = false ∧ decide (k = 8) = false ∧ decide (k = 9) = false ∧ decide (k = 10) = false) := by
  simp only [decide_eq_false_iff_not]; omega
theorem usesP_c (k : Int) : PC zP 141 [I .i64 k] (.tup [Bo (numP k), Bo (textP k), Bo (kidsP k), Bo (keysP k)]) := by
  rcases pkinds k with hk | hk | hk | hk | hk | hk | hk | hk | hk | hk | ⟨g1, g2, g3, g4, g5, g6, g7, g8, g9, g10⟩
  iterate 10
    ·
      refine PCB.of_body Tryz.func141 rfl (by decide) Tryz.ntmps141 Tryz.results141 rfl rfl rfl ?_ rfl rfl
      repeat' (first | (simp only [go_sem, zA, zB, zC, zD, zE, zF, zG, reduceCtorEq, zH, zI, zJ, zK, zL, hk]; all_goals fail_if_success guard_target =ₛ False) | (with_reducible first | ((first | refine yA rfl ?_ | refine yS ?_ | refine yT (by kernel_rfl) ?_); intro K hK) | (apply hK; clear hK K) | refine yU ?_ | (refine yV (by with_unfolding_all rfl) ?_ ?_ <;> intro h <;> (try simp only [zM, zN] at h) <;> try exact absurd h (by decide)) | refine yW ?_ | refine yX ?_ | refine yY ?_ | refine Or.inl ?_) | (clear hK K))
      all_goals (first | exact fun _ h => (by cases h) | (refine fin0 ?_; first | rfl | (simp only [numP, textP, kidsP, keysP, hk, Int.reduceEq, zb, cond_true, cond_false, decide_true, decide_false] <;> rfl)))
  ·
    refine PCB.of_body Tryz.func141 rfl (by decide) Tryz.ntmps141 Tryz.results141 rfl rfl rfl ?_ rfl rfl
    repeat' (first | (simp only [go_sem, zA, zB, zC, zD, zE, zF, zG, reduceCtorEq, zH, zI, zJ, zK, zL, g1, g2, g3, g4, g5, g6, g7, g8, g9, g10]; all_goals fail_if_success guard_target =ₛ False) | (with_reducible first | ((first | refine yA rfl ?_ | refine yS ?_ | refine yT (by kernel_rfl) ?_); intro K hK) | (apply hK; clear hK K) | refine yU ?_ | (refine yV (by with_unfolding_all rfl) ?_ ?_ <;> intro h <;> (try simp only [zM, zN] at h) <;> try exact absurd h (by decide)) | refine yW ?_ | refine yX ?_ | refine yY ?_ | refine Or.inl ?_) | (clear hK K))
    all_goals (first | exact fun _ h => (by cases h) | (refine fin0 ?_; first | rfl | (simp only [numP, textP, kidsP, keysP, g1, g2, g3, g4, g5, g6, g7, g8, g9, g10, zb, cond_true, cond_false, decide_true, decide_false] <;> rfl)))
def mapP (g : Pat) : Bool := !(!decide ((g.keys.length : Int) = (g.kids.length : Int)) || decide ((8 : Int) < (g.keys.length : Int))) && goB keyC validKeyB none g.keys
theorem validMapP_c (g : Pat) : PC zP 142 [Pt g] (Bo (mapP g)) := by
  cases h1 : decide ((g.keys.length : Int) = (g.kids.length : Int))
  ·
    refine PCB.of_body Tryz.func142 rfl (by decide) Tryz.ntmps142 Tryz.results142 rfl rfl rfl ?_ rfl rfl
    repeat' (first | (simp only [go_sem, zA, zB, zC, zD, zE, zF, zG, reduceCtorEq, zH, zI, zJ, zK, zL, encP_eq g, lB, h1]; all_goals fail_if_success guard_target =ₛ False) | (with_reducible first | ((first | refine yA rfl ?_ | refine yB rfl ?_ | refine yS ?_ | refine yT (by kernel_rfl) ?_ | refine yC rfl ?_ | refine yD rfl ?_ | refine yE rfl ?_ | refine yF rfl ?_ | refine yG rfl ?_ | refine yH rfl ?_); intro K hK) | (apply hK; clear hK K) | refine yU ?_ | (refine yV (by with_unfolding_all rfl) ?_ ?_ <;> intro h <;> (try simp only [zM, zN] at h) <;> try exact absurd h (by decide)) | refine yW ?_ | refine yX ?_ | refine yY ?_ | (refine ⟨fun h => ?_, fun h => ?_⟩ <;> (try simp only [zM, zN] at h) <;> try simp only [h]) | refine yZ mixed (by kernel_rfl) fun K hK => ?_ | refine ⟨(by kernel_rfl : depB _ _ _ = true), ?_⟩ | refine Or.inl ?_) | (clear hK K))
    all_goals (first | exact fun _ h => (by cases h) | (refine fin0 ?_; first | rfl | (simp only [mapP, h1, zb, cond_true, cond_false, decide_true, decide_false] <;> rfl)))
  cases h2 : decide ((8 : Int) < (g.keys.length : Int))
  case true =>
    refine PCB.of_body Tryz.func142 rfl (by decide) Tryz.ntmps142 Tryz.results142 rfl rfl rfl ?_ rfl rfl
    repeat' (first | (simp only [go_sem, zA, zB, zC, zD, zE, zF, zG, reduceCtorEq, zH, zI, zJ, zK, zL, encP_eq g, lB, h1, h2]; all_goals fail_if_success guard_target =ₛ False) | (with_reducible first | ((first | refine yA rfl ?_ | refine yB rfl ?_ | refine yS ?_ | refine yT (by kernel_rfl) ?_ | refine yC rfl ?_ | refine yD rfl ?_ | refine yE rfl ?_ | refine yF rfl ?_ | refine yG rfl ?_ | refine yH rfl ?_); intro K hK) | (apply hK; clear hK K) | refine yU ?_ | (refine yV (by with_unfolding_all rfl) ?_ ?_ <;> intro h <;> (try simp only [zM, zN] at h) <;> try exact absurd h (by decide)) | refine yW ?_ | refine yX ?_ | refine yY ?_ | (refine ⟨fun h => ?_, fun h => ?_⟩ <;> (try simp only [zM, zN] at h) <;> try simp only [h]) | refine yZ mixed (by kernel_rfl) fun K hK => ?_ | refine ⟨(by kernel_rfl : depB _ _ _ = true), ?_⟩ | refine Or.inl ?_) | (clear hK K))
    all_goals (first | exact fun _ h => (by cases h) | (refine fin0 ?_; first | rfl | (simp only [mapP, h1, h2, zb, cond_true, cond_false, decide_true, decide_false] <;> rfl)))
  have hm : mapP g = goB keyC validKeyB none g.keys := by unfold mapP; rw [h1, h2]; rfl
  refine PCB.of_body Tryz.func142 rfl (by decide) Tryz.ntmps142 Tryz.results142 rfl rfl rfl ?_ rfl rfl
  repeat' (first | (simp only [go_sem, zA, zB, zC, zD, zE, zF, zG, reduceCtorEq, zH, zI, zJ, zK, zL, encP_eq g, lB, h1, h2]; all_goals fail_if_success guard_target =ₛ False) | (with_reducible first | ((first | refine yA rfl ?_ | refine yB rfl ?_ | refine yS ?_ | refine yT (by kernel_rfl) ?_ | refine yC rfl ?_ | refine yD rfl ?_ | refine yE rfl ?_ | refine yF rfl ?_ | refine yG rfl ?_ | refine yH rfl ?_); intro K hK) | (apply hK; clear hK K) | refine yU ?_ | (refine yV (by with_unfolding_all rfl) ?_ ?_ <;> intro h <;> (try simp only [zM, zN] at h) <;> try exact absurd h (by decide)) | refine yW ?_ | refine yX ?_ | refine yY ?_ | (refine ⟨fun h => ?_, fun h => ?_⟩ <;> (try simp only [zM, zN] at h) <;> try simp only [h]) | refine yZ mixed (by kernel_rfl) fun K hK => ?_ | refine ⟨(by kernel_rfl : depB _ _ _ = true), ?_⟩ | refine Or.inl ?_) | (clear hK K))
  refine AWP.len 19 rfl fun hlen0 => ?_
  (try rw [lB] at hlen0)
  refine AWP.range (S := Unit) (g.keys) encKey (fun k s => (21, I .i64 (k : Nat)) :: []) (fun k s => []) [1, 19, 20] [1] (fun k s => goB keyC validKeyB none g.keys = goB keyC validKeyB (prevAt g.keys k) (g.keys.drop k)) (()) (by simp only [go_sem, zA, zB, zC, zD, zE, zF, zG, reduceCtorEq, zH, zI, zJ, zK, zL, encP_eq]; exact (by refine xG [] ?_ ?_ rfl rfl rfl <;> repeat first | exact trivial | refine ⟨rfl, ?_⟩ | refine ⟨by (simp only [go_sem, zA, zB, zC, zD, zE, zF, zG, reduceCtorEq, zH, zI, zJ, zK, zL, lA, lB, lC, lD, Nat.zero_add]) <;> rfl, ?_⟩)) ?_ ?_ ?_
  · rfl
  · intro k s x hlt hx hx' hb hok
    simp only [go_sem, zA, zB, zC, zD, zE, zF, zG, reduceCtorEq, zH, zI, zJ, zK, zL]
    rcases Nat.eq_zero_or_eq_succ_pred k with hk0 | hk0
    · rw [goB_zero hk0 hx] at hok
      have hp0 : decide ((0 : Int) < (k : Int)) = false := by rw [hk0]; rfl
      cases hz : validKeyB x <;> simp only [hz, Bool.true_and, Bool.false_and] at hok
      all_goals
        repeat' (first | (simp only [go_sem, zA, zB, zC, zD, zE, zF, zG, reduceCtorEq, zH, zI, zJ, zK, zL, encP_eq g, lB, hb, hz, hp0]; all_goals fail_if_success guard_target =ₛ False) | (with_reducible first | ((first | refine yA rfl ?_ | refine yB rfl ?_ | refine yS ?_ | refine yT (by kernel_rfl) ?_ | refine yC rfl ?_ | refine yD rfl ?_ | refine yE rfl ?_ | refine yF rfl ?_ | refine yG rfl ?_ | refine yH rfl ?_); intro K hK) | (apply hK; clear hK K) | refine yU ?_ | (refine yV (by with_unfolding_all rfl) ?_ ?_ <;> intro h <;> (try simp only [zM, zN] at h) <;> try exact absurd h (by decide)) | refine yW ?_ | refine yX ?_ | refine yY ?_ | (refine ⟨fun h => ?_, fun h => ?_⟩ <;> (try simp only [zM, zN] at h) <;> try simp only [h]) | refine ⟨_, identValidKey_c x, ?_⟩ | refine ⟨by omega, encKey x, hx', ?_⟩ | refine yZ mixed (by kernel_rfl) fun K hK => ?_ | refine ⟨(by kernel_rfl : depB _ _ _ = true), ?_⟩ | refine Or.inl ?_) | (clear hK K))
      ·
        all_goals (first | exact fun _ h => (by cases h) | (refine fin0 ?_; first | rfl | (simp only [hm, hok, zb, cond_true, cond_false, decide_true, decide_false] <;> rfl)))
      ·
        all_goals (rw [wrap_succ hlt hlen0])
        all_goals (refine ⟨(), ?_, (by refine xG [] ?_ ?_ rfl rfl rfl <;> repeat first | exact trivial | refine ⟨rfl, ?_⟩ | refine ⟨by (simp only [go_sem, zA, zB, zC, zD, zE, zF, zG, reduceCtorEq, zH, zI, zJ, zK, zL, lA, lB, lC, lD, Nat.zero_add]) <;> rfl, ?_⟩)⟩)
        all_goals exact hok
    · obtain ⟨j, rfl⟩ : ∃ j, k = j + 1 := ⟨_, hk0⟩
      obtain ⟨y, hy, hy', _, _⟩ := at_lt (enc := encKey) (show j < g.keys.length by omega)
      rw [goB_succ hy hx] at hok
      have hw : IntKind.i64.wrap (((j + 1 : Nat) : Int) - 1) = (j : Int) := by rw [w64 (by omega)]; omega
      have hp0 : decide ((0 : Int) < ((j + 1 : Nat) : Int)) = true := by simp only [decide_eq_true_eq]; omega
      cases hz : validKeyB x <;> cases hc : decide (keyC y x < 0) <;> simp only [hz, hc, Bool.true_and, Bool.false_and] at hok
      all_goals
        have hcg : decide (0 ≤ keyC y x) = !decide (keyC y x < 0) := by rw [← Bool.coe_iff_coe]; simp
        rw [hc] at hcg
      all_goals
        repeat' (first | (simp only [go_sem, zA, zB, zC, zD, zE, zF, zG, reduceCtorEq, zH, zI, zJ, zK, zL, encP_eq g, lB, hb, hz, hp0, hw, hcg]; all_goals fail_if_success guard_target =ₛ False) | (with_reducible first | ((first | refine yA rfl ?_ | refine yB rfl ?_ | refine yS ?_ | refine yT (by kernel_rfl) ?_ | refine yC rfl ?_ | refine yD rfl ?_ | refine yE rfl ?_ | refine yF rfl ?_ | refine yG rfl ?_ | refine yH rfl ?_); intro K hK) | (apply hK; clear hK K) | refine yU ?_ | (refine yV (by with_unfolding_all rfl) ?_ ?_ <;> intro h <;> (try simp only [zM, zN] at h) <;> try exact absurd h (by decide)) | refine yW ?_ | refine yX ?_ | refine yY ?_ | (refine ⟨fun h => ?_, fun h => ?_⟩ <;> (try simp only [zM, zN] at h) <;> try simp only [h]) | refine ⟨_, identValidKey_c x, ?_⟩ | refine ⟨_, identCompareKeys_c y x, ?_⟩ | refine ⟨by omega, encKey x, hx', ?_⟩ | refine ⟨by omega, encKey y, hy', ?_⟩ | refine yZ mixed (by kernel_rfl) fun K hK => ?_ | refine ⟨(by kernel_rfl : depB _ _ _ = true), ?_⟩ | refine Or.inl ?_) | (clear hK K))
      any_goals (first | exact fun _ h => (by cases h) | (refine fin0 ?_; rw [hm, hok]; done) | (refine fin0 ?_; rw [hm, hok]; rfl))
      all_goals (rw [wrap_succ hlt hlen0])
      all_goals (refine ⟨(), ?_, (by refine xG [] ?_ ?_ rfl rfl rfl <;> repeat first | exact trivial | refine ⟨rfl, ?_⟩ | refine ⟨by (simp only [go_sem, zA, zB, zC, zD, zE, zF, zG, reduceCtorEq, zH, zI, zJ, zK, zL, lA, lB, lC, lD, Nat.zero_add]) <;> rfl, ?_⟩)⟩)
      all_goals exact hok
  intro s0 hb0 hok0
  simp only [go_sem, zA, zB, zC, zD, zE, zF, zG, reduceCtorEq, zH, zI, zJ, zK, zL]
  rw [goB_end] at hok0
  repeat' (first | (simp only [go_sem, zA, zB, zC, zD, zE, zF, zG, reduceCtorEq, zH, zI, zJ, zK, zL, encP_eq g, lB, hb0]; all_goals fail_if_success guard_target =ₛ False) | (with_reducible first | ((first | refine yA rfl ?_ | refine yB rfl ?_ | refine yS ?_ | refine yT (by kernel_rfl) ?_ | refine yC rfl ?_ | refine yD rfl ?_ | refine yE rfl ?_ | refine yF rfl ?_ | refine yG rfl ?_ | refine yH rfl ?_); intro K hK) | (apply hK; clear hK K) | refine yU ?_ | (refine yV (by with_unfolding_all rfl) ?_ ?_ <;> intro h <;> (try simp only [zM, zN] at h) <;> try exact absurd h (by decide)) | refine yW ?_ | refine yX ?_ | refine yY ?_ | (refine ⟨fun h => ?_, fun h => ?_⟩ <;> (try simp only [zM, zN] at h) <;> try simp only [h]) | refine yZ mixed (by kernel_rfl) fun K hK => ?_ | refine ⟨(by kernel_rfl : depB _ _ _ = true), ?_⟩ | refine Or.inl ?_) | (clear hK K))
  all_goals (refine fin0 ?_; rw [hm, hok0])
def badP (g : Pat) : Bool := (!numP g.kind && !decide (g.num = 0)) || ((!textP g.kind && !decide (g.text = [])) || ((!kidsP g.kind && decide ((0 : Int) < g.kids.length)) || (!keysP g.kind && decide ((0 : Int) < g.keys.length))))
def bodyP (g : Pat) : Bool :=
  bif decide (g.kind = 1) || (decide (g.kind = 3) || decide (g.kind = 6)) then true else
  bif decide (g.kind = 2) then isVarB g.text else
  bif decide (g.kind = 4) then decide ((g.text.length : Int) ≤ 64) else
  bif decide (g.kind = 5) then isAtomB g.text else
  bif decide (g.kind = 7) then decide ((g.kids.length : Int) ≤ 4) else
  bif decide (g.kind = 8) then decide ((g.kids.length : Int) = 2) else
  bif decide (g.kind = 9) then mapP g else
  bif decide (g.kind = 10) then decide ((g.kids.length : Int) = 1) && isVarB g.text else false
def vP (g : Pat) : Bool := !badP g && bodyP g
theorem validPattern_c (g : Pat) : PC zP 109 [Pt g] (Bo (vP g)) := by
  have hu := usesP_c g.kind
  have hmp := validMapP_c g
  rw [show Pt g = T.st (encP g) from rfl, encP_eq] at hmp
  rcases pkinds g.kind with hk | hk | hk | hk | hk | hk | hk | hk | hk | hk | ⟨g1, g2, g3, g4, g5, g6, g7, g8, g9, g10⟩
  iterate 10
    ·
      rw [hk] at hu hmp
      refine PCB.of_body Tryz.func109 rfl (by decide) Tryz.ntmps109 Tryz.results109 rfl rfl rfl ?_ rfl rfl
      repeat' (first | (simp only [go_sem, zA, zB, zC, zD, zE, zF, zG, reduceCtorEq, zH, zI, zJ, zK, zL, encP_eq g, hk, numP, textP, kidsP, keysP, lB]; all_goals fail_if_success guard_target =ₛ False) | (with_reducible first | ((first | refine yA rfl ?_ | refine yB rfl ?_ | refine yS ?_ | refine yT (by kernel_rfl) ?_); intro K hK) | (apply hK; clear hK K) | refine yU ?_ | (refine yV (by with_unfolding_all rfl) ?_ ?_ <;> intro h <;> (try simp only [zM, zN] at h) <;> try exact absurd h (by decide)) | refine yW ?_ | refine yX ?_ | refine yY ?_ | (refine ⟨fun h => ?_, fun h => ?_⟩ <;> (try simp only [zM, zN] at h) <;> try simp only [h]) | refine ⟨_, hu, ?_⟩ | refine ⟨_, identIsVariable_c _, ?_⟩ | refine ⟨_, identIsAtom_c _, ?_⟩ | refine ⟨_, hmp, ?_⟩ | refine Or.inl ?_) | (clear hK K))
      all_goals (first | exact fun _ h => (by cases h) | (refine fin0 ?_; first | rfl | (simp only [vP, badP, bodyP, numP, textP, kidsP, keysP, hk, Int.reduceEq, Int.reduceLE, *, zb, cond_true, cond_false, decide_true, decide_false] <;> rfl)))
  ·
    refine PCB.of_body Tryz.func109 rfl (by decide) Tryz.ntmps109 Tryz.results109 rfl rfl rfl ?_ rfl rfl
    repeat' (first | (simp only [go_sem, zA, zB, zC, zD, zE, zF, zG, reduceCtorEq, zH, zI, zJ, zK, zL, encP_eq g, numP, textP, kidsP, keysP, g1, g2, g3, g4, g5, g6, g7, g8, g9, g10, lB]; all_goals fail_if_success guard_target =ₛ False) | (with_reducible first | ((first | refine yA rfl ?_ | refine yB rfl ?_ | refine yS ?_ | refine yT (by kernel_rfl) ?_); intro K hK) | (apply hK; clear hK K) | refine yU ?_ | (refine yV (by with_unfolding_all rfl) ?_ ?_ <;> intro h <;> (try simp only [zM, zN] at h) <;> try exact absurd h (by decide)) | refine yW ?_ | refine yX ?_ | refine yY ?_ | (refine ⟨fun h => ?_, fun h => ?_⟩ <;> (try simp only [zM, zN] at h) <;> try simp only [h]) | refine ⟨_, hu, ?_⟩ | refine Or.inl ?_) | (clear hK K))
    all_goals (first | exact fun _ h => (by cases h) | (refine fin0 ?_; first | rfl | (simp only [vP, badP, bodyP, numP, textP, kidsP, keysP, Int.reduceEq, Int.reduceLE, *, zb, cond_true, cond_false, decide_true, decide_false] <;> rfl)))
mutual
def treeP : Pat → Bool
  | ⟨kind, num, text, kids, keys⟩ => vP ⟨kind, num, text, kids, keys⟩ && treePs kids
def treePs : List Pat → Bool
  | [] => true
  | g :: l => treeP g && treePs l
end
theorem treePs_all : ∀ l : List Pat, treePs l = l.all treeP
  | [] => by simp only [treePs, List.all_nil]
  | g :: l => by simp only [treePs, List.all_cons, treePs_all l]
theorem treeP_eq (g : Pat) : treeP g = (vP g && g.kids.all treeP) := by cases g; simp only [treeP, treePs_all]
theorem all_takeP {α : Type} {p : α → Bool} {l : List α} {k : Nat} {x : α} (hx : l[k]? = some x) : (l.take (k + 1)).all p = ((l.take k).all p && p x) := by
  rw [List.take_add_one, hx, List.all_append]; simp
theorem any_notP {α : Type} (p : α → Bool) (l : List α) : (!l.any fun x => !p x) = l.all p := by
  induction l with
  | nil => rfl
  | cons x l ih => rw [List.any_cons, List.all_cons, ← ih]; cases p x <;> simp
theorem validTreeP_c (g : Pat) : PC zP 79 [Pt g] (Bo (treeP g)) := by
  have ih : ∀ k ∈ g.kids, PC zP 79 [Pt k] (Bo (treeP k)) := fun k hk => validTreeP_c k
  have ih1 : ∀ k ∈ g.kids, PC zP 111 [Pt k] (Bo (!treeP k)) := fun k hk => by
    have h := ih k hk
    refine PCB.of_body Tryz.func111 rfl (by decide) Tryz.ntmps111 Tryz.results111 rfl rfl rfl ?_ rfl rfl
    repeat' (first | (simp only [go_sem, zA, zB, zC, zD, zE, zF, zG, reduceCtorEq, zH, zI, zJ, zK, zL]; all_goals fail_if_success guard_target =ₛ False) | (with_reducible first | ((first | refine yA rfl ?_ | refine yS ?_ | refine yT (by kernel_rfl) ?_); intro K hK) | (apply hK; clear hK K) | refine yU ?_ | (refine yV (by with_unfolding_all rfl) ?_ ?_ <;> intro h <;> (try simp only [zM, zN] at h) <;> try exact absurd h (by decide)) | refine yW ?_ | refine yX ?_ | refine yY ?_ | refine ⟨_, h, ?_⟩ | refine Or.inl ?_) | (clear hK K))
    all_goals (first | exact fun _ h => (by cases h) | (refine fin0 ?_; first | rfl | (simp only [zb, cond_true, cond_false, decide_true, decide_false] <;> rfl)))
  have hc := containsP0 111 (fun k => !treeP k) g.kids ih1
  have hv : PC zP 109 [.st (encP g)] (Bo (vP g)) := validPattern_c g
  have ha := any_notP treeP g.kids
  rw [encP_eq] at hv
  rw [treeP_eq]
  refine PCB.of_body Tryz.func79 rfl (by decide) Tryz.ntmps79 Tryz.results79 rfl rfl rfl ?_ rfl rfl
  cases hz : vP g
  all_goals
    repeat' (first | (simp only [go_sem, zA, zB, zC, zD, zE, zF, zG, reduceCtorEq, zH, zI, zJ, zK, zL, encP_eq g, hz]; all_goals fail_if_success guard_target =ₛ False) | (with_reducible first | ((first | refine yA rfl ?_ | refine yB rfl ?_ | refine yS ?_ | refine yT (by kernel_rfl) ?_); intro K hK) | (apply hK; clear hK K) | refine yU ?_ | (refine yV (by with_unfolding_all rfl) ?_ ?_ <;> intro h <;> (try simp only [zM, zN] at h) <;> try exact absurd h (by decide)) | refine yW ?_ | refine yX ?_ | refine yY ?_ | (refine ⟨fun h => ?_, fun h => ?_⟩ <;> (try simp only [zM, zN] at h) <;> try simp only [h]) | refine ⟨_, hv, ?_⟩ | refine ⟨_, hc, ?_⟩ | refine Or.inl ?_) | (clear hK K))
  all_goals (first | exact fun _ h => (by cases h) | refine fin0 ?_)
  all_goals (first | rfl | (rw [ha]; done) | (rw [ha]; rfl))
termination_by cntP g
decreasing_by exact cntP_kid hk
end Go.Proofs.YteobojeemflggaaGreat
set_option linter.unusedVariables false
namespace Go.Sx
variable {P : Program}
theorem AWP.join {n : Nat} {Q : Exit → AS → Prop} {S : Type} {id : Nat} {l : Array Oper} {d : Bool} {x y : Code} {env : Env} {B : Bx} (chg : S → Env) (chB : S → Bx) (ks kb : List Nat) (ok : S → Prop)
    (hx : AWP P n (.seq (.region id l d) x) ⟨env, B⟩ (Then (fun σ' => ∃ s, ok s ∧ Gh n σ' ⟨chg s ++ keepL env ks, chB s ++ keepB B kb⟩) Q))
    (hy : ∀ s, ok s → AWP P n y ⟨chg s ++ keepL env ks, chB s ++ keepB B kb⟩ Q) : AWP P n (.seq (.seq (.region id l d) x) y) ⟨env, B⟩ Q := by
  intro κ M0 a w hs
  refine wp_seq (wp_mono (hx κ M0 a w hs) ?_)
  rintro e a' w' ⟨σ', s, q⟩
  cases e with
  | normal =>
    obtain ⟨s', hok, hg⟩ := q
    exact hy s' hok κ M0 a' w' (hg κ M0 a' w' s)
  | _ => exact ⟨σ', s, q⟩
end Go.Sx
