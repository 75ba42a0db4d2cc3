/- A part of the proof. Conditions: those that each lemma states. -/
import Derived.Test.YteobojeemflggaaGreatPm7
import Derived.Test.YteobojeemflggaaGreatPm11
import Derived.Test.YteobojeemflggaaGreatPm12
import Derived.Test.YteobojeemflggaaGreatPm10
import Derived.Test.YteobojeemflggaaGreatPm4
import Derived.Shelf.SortM.Plain
import Derived.Shelf.SortM.SortNone
import Derived.Shelf.SlicesG.CompactS
import Derived.Test.YteobojeemflggaaGreatProg
import Derived.Test.YteobojeemflggaaGreatPm9
import Derived.Test.YteobojeemflggaaGreatPm2
import Derived.Test.YteobojeemflggaaGreatPm5
open Go.Proofs.Tryz renaming prog → zP
open List renaming length_append → lA, length_map → lB, length_cons → lC, length_nil → lD, map_cons → lE, mem_singleton → lN, mem_of_getElem? → lP
open Go.Sx renaming seqVC_stepN → yA, seqVC_stepG → yB, parVC_stepN → yC, parVC_stepG → yD, parEVC_stepN → yE, parEVC_stepG → yF, genVC_stepN → yG, genVC_stepG → yH
open Go.Sx.AWP renaming seq → yS, seqR → yT, block → yU, cond → yV, skip → yW, ret → yX, exit → yY, parR → yZ, genR → xA, range → xC
open Go.Sx.Gh renaming to → xG
open Nat renaming reduceBEq → zA, reduceBNe → zB, reduceAdd → zC, reduceSub → zD, reduceMul → zE, reduceLeDiff → zF, reduceLT → zG, reduceEqDiff → zH
open Int renaming reduceToNat → zI, reduceLE → zJ, reduceLT → zK, reduceEq → zL
open Bool renaming not_eq_true' → zM, not_eq_false' → zN
set_option linter.unusedSimpArgs false
set_option linter.unusedVariables false
set_option maxRecDepth 20000
set_option maxHeartbeats 64000000
namespace Go.Proofs.YteobojeemflggaaGreat
open Go Go.Sx
theorem node_456 (v : Val) (hk : v.kind = 4 ∨ v.kind = 5 ∨ v.kind = 6) : PC zP 88 [.st (encVal v)] (Bo (nodeB v)) := by
  rcases hk with hk | hk | hk
  iterate 3
    ·
      have hlab : labelsB v.labels = goB Lib.compareBytes isVarB none v.labels := by rw [goB_none]; rfl
      refine PCB.of_body Tryz.func88 rfl (by decide) Tryz.ntmps88 Tryz.results88 rfl rfl rfl ?_ rfl rfl
      repeat' (first | (simp only [go_sem, zA, zB, zC, zD, zE, zF, zG, reduceCtorEq, zH, zI, zJ, zK, zL, encVal_eq, hk]; all_goals fail_if_success guard_target =ₛ False) | (with_reducible first | ((first | refine yA rfl ?_ | refine yB rfl ?_ | refine yS ?_ | refine yT (by kernel_rfl) ?_ | refine yC rfl ?_ | refine yD rfl ?_ | refine yE rfl ?_ | refine yF rfl ?_ | refine yG rfl ?_ | refine yH rfl ?_); intro K hK) | (apply hK; clear hK K) | refine yU ?_ | (refine yV (by with_unfolding_all rfl) ?_ ?_ <;> intro h <;> (try simp only [zM, zN] at h) <;> try exact absurd h (by decide)) | refine yW ?_ | refine yX ?_ | refine yY ?_ | (refine ⟨fun h => ?_, fun h => ?_⟩ <;> (try simp only [zM, zN] at h) <;> try simp only [h]) | refine yZ mixed (by kernel_rfl) fun K hK => ?_ | refine ⟨(by kernel_rfl : depB _ _ _ = true), ?_⟩ | refine Or.inl ?_) | (clear hK K))
      refine AWP.lenB 1 6 rfl rfl fun hlen0 => ?_
      (try rw [lB] at hlen0)
      refine xC (S := Unit) (v.labels) Sx.encStr (fun k s => (3, I .i64 (k : Nat)) :: []) (fun k s => []) [1] [1] (fun k s => goB Lib.compareBytes isVarB none v.labels = goB Lib.compareBytes isVarB (prevAt v.labels k) (v.labels.drop k)) (()) (by simp only [go_sem, zA, zB, zC, zD, zE, zF, zG, reduceCtorEq, zH, zI, zJ, zK, zL, encVal_eq]; exact (by refine xG [] ?_ ?_ rfl rfl rfl <;> repeat first | exact trivial | refine ⟨rfl, ?_⟩ | refine ⟨by (simp only [go_sem, zA, zB, zC, zD, zE, zF, zG, reduceCtorEq, zH, zI, zJ, zK, zL, lA, lB, lC, lD, Nat.zero_add]) <;> rfl, ?_⟩)) ?_ ?_ ?_
      · rfl
      · intro k s x hlt hx hx' hb hok
        simp only [go_sem, zA, zB, zC, zD, zE, zF, zG, reduceCtorEq, zH, zI, zJ, zK, zL]
        rcases Nat.eq_zero_or_eq_succ_pred k with hk0 | hk0
        · rw [goB_zero hk0 hx] at hok
          have hp0 : decide ((0 : Int) < (k : Int)) = false := by rw [hk0]; rfl
          cases hz : isVarB x <;> simp only [hz, Bool.true_and, Bool.false_and] at hok
          all_goals
            repeat' (first | (simp only [go_sem, zA, zB, zC, zD, zE, zF, zG, reduceCtorEq, zH, zI, zJ, zK, zL, encVal_eq, Sx.encStr, hk, lB, hb, hz, hp0]; all_goals fail_if_success guard_target =ₛ False) | (with_reducible first | ((first | refine yA rfl ?_ | refine yB rfl ?_ | refine yS ?_ | refine yT (by kernel_rfl) ?_ | refine yC rfl ?_ | refine yD rfl ?_ | refine yE rfl ?_ | refine yF rfl ?_ | refine yG rfl ?_ | refine yH rfl ?_); intro K hK) | (apply hK; clear hK K) | refine yU ?_ | (refine yV (by with_unfolding_all rfl) ?_ ?_ <;> intro h <;> (try simp only [zM, zN] at h) <;> try exact absurd h (by decide)) | refine yW ?_ | refine yX ?_ | refine yY ?_ | (refine ⟨fun h => ?_, fun h => ?_⟩ <;> (try simp only [zM, zN] at h) <;> try simp only [h]) | refine ⟨_, refIsVariable_c x, ?_⟩ | refine ⟨by omega, Sx.encStr x, hx', ?_⟩ | refine yZ mixed (by kernel_rfl) fun K hK => ?_ | refine ⟨(by kernel_rfl : depB _ _ _ = true), ?_⟩ | refine Or.inl ?_) | (clear hK K))
          ·
            all_goals (first | exact fun _ h => (by cases h) | (refine fin0 ?_; first | rfl | (simp only [nodeB, hlab, hok, zb, cond_true, cond_false, decide_true, decide_false] <;> rfl)))
          ·
            all_goals (rw [wrap_succ hlt hlen0])
            all_goals (refine ⟨(), ?_, (by refine xG [] ?_ ?_ rfl rfl rfl <;> repeat first | exact trivial | refine ⟨rfl, ?_⟩ | refine ⟨by (simp only [go_sem, zA, zB, zC, zD, zE, zF, zG, reduceCtorEq, zH, zI, zJ, zK, zL, lA, lB, lC, lD, Nat.zero_add]) <;> rfl, ?_⟩)⟩)
            all_goals exact hok
        · obtain ⟨j, rfl⟩ : ∃ j, k = j + 1 := ⟨_, hk0⟩
          obtain ⟨y, hy, hy', _, _⟩ := at_lt (enc := Sx.encStr) (show j < v.labels.length by omega)
          rw [goB_succ hy hx] at hok
          have hw : IntKind.i64.wrap (((j + 1 : Nat) : Int) - 1) = (j : Int) := by rw [w64 (by omega)]; omega
          have hp0 : decide ((0 : Int) < ((j + 1 : Nat) : Int)) = true := by simp only [decide_eq_true_eq]; omega
          cases hz : isVarB x <;> cases hc : decide (Lib.compareBytes y x < 0) <;> simp only [hz, hc, Bool.true_and, Bool.false_and] at hok
          all_goals
            have hcg : decide (0 ≤ Lib.compareBytes y x) = !decide (Lib.compareBytes y x < 0) := by rw [← Bool.coe_iff_coe]; simp
            rw [hc] at hcg
          all_goals (have hl := less_dec y x; rw [hc] at hl)
          all_goals
            repeat' (first | (simp only [go_sem, zA, zB, zC, zD, zE, zF, zG, reduceCtorEq, zH, zI, zJ, zK, zL, encVal_eq, Sx.encStr, hk, lB, hb, hz, hp0, hw, hcg, hl]; all_goals fail_if_success guard_target =ₛ False) | (with_reducible first | ((first | refine yA rfl ?_ | refine yB rfl ?_ | refine yS ?_ | refine yT (by kernel_rfl) ?_ | refine yC rfl ?_ | refine yD rfl ?_ | refine yE rfl ?_ | refine yF rfl ?_ | refine yG rfl ?_ | refine yH rfl ?_); intro K hK) | (apply hK; clear hK K) | refine yU ?_ | (refine yV (by with_unfolding_all rfl) ?_ ?_ <;> intro h <;> (try simp only [zM, zN] at h) <;> try exact absurd h (by decide)) | refine yW ?_ | refine yX ?_ | refine yY ?_ | (refine ⟨fun h => ?_, fun h => ?_⟩ <;> (try simp only [zM, zN] at h) <;> try simp only [h]) | refine ⟨_, refIsVariable_c x, ?_⟩ | refine ⟨by omega, Sx.encStr x, hx', ?_⟩ | refine ⟨by omega, Sx.encStr y, hy', ?_⟩ | refine yZ mixed (by kernel_rfl) fun K hK => ?_ | refine ⟨(by kernel_rfl : depB _ _ _ = true), ?_⟩ | refine Or.inl ?_) | (clear hK K))
          any_goals (first | exact fun _ h => (by cases h) | (refine fin0 ?_; first | (simp only [nodeB, hlab, hok, Bool.and_true, Bool.and_false, Bool.true_and, Bool.false_and, Bool.or_true, Bool.or_false, Bool.true_or, Bool.false_or, Bool.not_true, Bool.not_false, cond_true, cond_false, decide_true, decide_false]; done) | (simp only [nodeB, hlab, hok, Bool.and_true, Bool.and_false, Bool.true_and, Bool.false_and, Bool.or_true, Bool.or_false, Bool.true_or, Bool.false_or, Bool.not_true, Bool.not_false, cond_true, cond_false, decide_true, decide_false]; rfl)))
          all_goals (rw [wrap_succ hlt hlen0])
          all_goals (refine ⟨(), ?_, (by refine xG [] ?_ ?_ rfl rfl rfl <;> repeat first | exact trivial | refine ⟨rfl, ?_⟩ | refine ⟨by (simp only [go_sem, zA, zB, zC, zD, zE, zF, zG, reduceCtorEq, zH, zI, zJ, zK, zL, lA, lB, lC, lD, Nat.zero_add]) <;> rfl, ?_⟩)⟩)
          all_goals exact hok
      intro s0 hb0 hok0
      simp only [go_sem, zA, zB, zC, zD, zE, zF, zG, reduceCtorEq, zH, zI, zJ, zK, zL]
      rw [goB_end] at hok0
      rw [hok0] at hlab
      repeat' (first | (simp only [go_sem, zA, zB, zC, zD, zE, zF, zG, reduceCtorEq, zH, zI, zJ, zK, zL, encVal_eq, hk, hb0, lB]; all_goals fail_if_success guard_target =ₛ False) | (with_reducible first | ((first | refine yA rfl ?_ | refine yB rfl ?_ | refine yS ?_ | refine yT (by kernel_rfl) ?_ | refine yC rfl ?_ | refine yD rfl ?_ | refine yE rfl ?_ | refine yF rfl ?_ | refine yG rfl ?_ | refine yH rfl ?_); intro K hK) | (apply hK; clear hK K) | refine yU ?_ | (refine yV (by with_unfolding_all rfl) ?_ ?_ <;> intro h <;> (try simp only [zM, zN] at h) <;> try exact absurd h (by decide)) | refine yW ?_ | refine yX ?_ | refine yY ?_ | (refine ⟨fun h => ?_, fun h => ?_⟩ <;> (try simp only [zM, zN] at h) <;> try simp only [h]) | refine ⟨_, isAtom_c _, ?_⟩ | refine yZ mixed (by kernel_rfl) fun K hK => ?_ | refine ⟨(by kernel_rfl : depB _ _ _ = true), ?_⟩ | refine Or.inl ?_) | (clear hK K))
      all_goals (first | exact fun _ h => (by cases h) | (refine fin0 ?_; first | rfl | (simp only [nodeB, badFields, bodyB, kNum, kText, kKids, kKeys, kEnts, kKnown, hk, Int.reduceEq, Int.reduceLE, hlab, *, zb, cond_true, cond_false, decide_true, decide_false] <;> rfl)))
theorem node_4 (v : Val) (hk : v.kind = 4) : PC zP 88 [.st (encVal v)] (Bo (nodeB v)) := node_456 v (.inl hk)
theorem node_5 (v : Val) (hk : v.kind = 5) : PC zP 88 [.st (encVal v)] (Bo (nodeB v)) := node_456 v (.inr (.inl hk))
theorem node_6 (v : Val) (hk : v.kind = 6) : PC zP 88 [.st (encVal v)] (Bo (nodeB v)) := node_456 v (.inr (.inr hk))
theorem node_c (v : Val) : PC zP 88 [.st (encVal v)] (Bo (nodeB v)) := by
  rcases kinds v.kind with h | h | h | h | h | h | h | h | h | h
  · exact node_1 v h
  · exact node_2 v h
  · exact node_3 v h
  · exact node_4 v h
  · exact node_5 v h
  · exact node_6 v h
  · exact node_7 v h
  · exact node_8 v h
  · exact node_9 v h
  · exact node_0 v h
theorem bulk_kid {v p : Val} (h : p ∈ v.kids) : bulkV p < bulkV v := bulk_part (List.mem_append_left _ h)
theorem bulk_arg {v p : Val} {e : List Val × Bool × Val} (he : e ∈ v.ents) (h : p ∈ e.1) : bulkV p < bulkV v := by
  have h1 := bulkV_eq v; have h2 := bulkEs_mem he; have h3 := bulkE_eq e; have h4 := bulkVs_mem h; omega
theorem bulk_res {v : Val} {e : List Val × Bool × Val} (he : e ∈ v.ents) : bulkV e.2.2 < bulkV v := by
  have h1 := bulkV_eq v; have h2 := bulkEs_mem he; have h3 := bulkE_eq e; omega
theorem valid_c (v : Val) : PC zP 50 [.st (encVal v)] (Bo (treeB v)) := by
  have ihk : ∀ p ∈ v.kids, PC zP 50 [.st (encVal p)] (Bo (treeB p)) := fun p hp => valid_c p
  have iha : ∀ e ∈ v.ents, ∀ p ∈ e.1, PC zP 50 [.st (encVal p)] (Bo (treeB p)) := fun e he p hp => valid_c p
  have ihr : ∀ e ∈ v.ents, PC zP 50 [.st (encVal e.2.2)] (Bo (treeB e.2.2)) := fun e he => valid_c e.2.2
  have hn := node_c v
  rw [encVal_eq] at hn
  rw [treeB_kids]
  refine PCB.of_body Tryz.func50 rfl (by decide) Tryz.ntmps50 Tryz.results50 rfl rfl rfl ?_ rfl rfl
  cases hz : nodeB v
  ·
    repeat' (first | (simp only [go_sem, zA, zB, zC, zD, zE, zF, zG, reduceCtorEq, zH, zI, zJ, zK, zL, hz, encVal_eq v]; all_goals fail_if_success guard_target =ₛ False) | (with_reducible first | ((first | refine yA rfl ?_ | refine yB rfl ?_ | refine yS ?_ | refine yT (by kernel_rfl) ?_); intro K hK) | (apply hK; clear hK K) | refine yU ?_ | (refine yV (by with_unfolding_all rfl) ?_ ?_ <;> intro h <;> (try simp only [zM, zN] at h) <;> try exact absurd h (by decide)) | refine yW ?_ | refine yX ?_ | refine yY ?_ | (refine ⟨fun h => ?_, fun h => ?_⟩ <;> (try simp only [zM, zN] at h) <;> try simp only [h]) | refine ⟨_, hn, ?_⟩ | refine Or.inl ?_) | (clear hK K))
    all_goals (first | exact fun _ h => (by cases h) | (refine fin0 ?_; first | rfl | (simp only [hz, zb, cond_true, cond_false, decide_true, decide_false] <;> rfl)))
  repeat' (first | (simp only [go_sem, zA, zB, zC, zD, zE, zF, zG, reduceCtorEq, zH, zI, zJ, zK, zL, hz, encVal_eq v, lB]; all_goals fail_if_success guard_target =ₛ False) | (with_reducible first | ((first | refine yA rfl ?_ | refine yB rfl ?_ | refine yS ?_ | refine yT (by kernel_rfl) ?_); intro K hK) | (apply hK; clear hK K) | refine yU ?_ | (refine yV (by with_unfolding_all rfl) ?_ ?_ <;> intro h <;> (try simp only [zM, zN] at h) <;> try exact absurd h (by decide)) | refine yW ?_ | refine yX ?_ | refine yY ?_ | (refine ⟨fun h => ?_, fun h => ?_⟩ <;> (try simp only [zM, zN] at h) <;> try simp only [h]) | refine ⟨_, hn, ?_⟩ | refine Or.inl ?_) | (clear hK K))
  refine AWP.lenB 1 3 rfl rfl fun hlen0 => ?_
  (try rw [lB] at hlen0)
  refine xC (S := Unit) (v.kids) encVal (fun k s => (3, I .i64 (k : Nat)) :: []) (fun k s => []) [1] [1] (fun k s => v.kids.all treeB = (v.kids.drop k).all treeB) (()) (by simp only [go_sem, zA, zB, zC, zD, zE, zF, zG, reduceCtorEq, zH, zI, zJ, zK, zL, encVal_eq]; exact (by refine xG [] ?_ ?_ rfl rfl rfl <;> repeat first | exact trivial | refine ⟨rfl, ?_⟩ | refine ⟨by (simp only [go_sem, zA, zB, zC, zD, zE, zF, zG, reduceCtorEq, zH, zI, zJ, zK, zL, lA, lB, lC, lD, Nat.zero_add]) <;> rfl, ?_⟩)) ?_ ?_ ?_
  · rfl
  · intro k s x hlt hx hx' hb hok
    simp only [go_sem, zA, zB, zC, zD, zE, zF, zG, reduceCtorEq, zH, zI, zJ, zK, zL]
    have hix := ihk x (lP hx)
    rw [all_step hx] at hok
    cases hy : treeB x <;> simp only [hy, Bool.true_and, Bool.false_and] at hok
    all_goals
      repeat' (first | (simp only [go_sem, zA, zB, zC, zD, zE, zF, zG, reduceCtorEq, zH, zI, zJ, zK, zL, encVal_eq v, lB, hb, hy]; all_goals fail_if_success guard_target =ₛ False) | (with_reducible first | ((first | refine yA rfl ?_ | refine yB rfl ?_ | refine yS ?_ | refine yT (by kernel_rfl) ?_); intro K hK) | (apply hK; clear hK K) | refine yU ?_ | (refine yV (by with_unfolding_all rfl) ?_ ?_ <;> intro h <;> (try simp only [zM, zN] at h) <;> try exact absurd h (by decide)) | refine yW ?_ | refine yX ?_ | refine yY ?_ | (refine ⟨fun h => ?_, fun h => ?_⟩ <;> (try simp only [zM, zN] at h) <;> try simp only [h]) | refine ⟨_, hix, ?_⟩ | refine ⟨by omega, encVal x, hx', ?_⟩ | refine Or.inl ?_) | (clear hK K))
    ·
      all_goals (first | exact fun _ h => (by cases h) | (refine fin0 ?_; first | rfl | (simp only [hok, hz, zb, cond_true, cond_false, decide_true, decide_false] <;> rfl)))
    ·
      all_goals (rw [wrap_succ hlt hlen0])
      all_goals (refine ⟨(), ?_, (by refine xG [] ?_ ?_ rfl rfl rfl <;> repeat first | exact trivial | refine ⟨rfl, ?_⟩ | refine ⟨by (simp only [go_sem, zA, zB, zC, zD, zE, zF, zG, reduceCtorEq, zH, zI, zJ, zK, zL, lA, lB, lC, lD, Nat.zero_add]) <;> rfl, ?_⟩)⟩)
      all_goals exact hok
  intro s0 hb0 hok0
  simp only [go_sem, zA, zB, zC, zD, zE, zF, zG, reduceCtorEq, zH, zI, zJ, zK, zL]
  rw [all_end] at hok0
  repeat' (first | (simp only [go_sem, zA, zB, zC, zD, zE, zF, zG, reduceCtorEq, zH, zI, zJ, zK, zL, encVal_eq v, lB, hb0]; all_goals fail_if_success guard_target =ₛ False) | (with_reducible first | ((first | refine yA rfl ?_ | refine yB rfl ?_ | refine yS ?_ | refine yT (by kernel_rfl) ?_); intro K hK) | (apply hK; clear hK K) | refine yU ?_ | (refine yV (by with_unfolding_all rfl) ?_ ?_ <;> intro h <;> (try simp only [zM, zN] at h) <;> try exact absurd h (by decide)) | refine yW ?_ | refine yX ?_ | refine yY ?_ | (refine ⟨fun h => ?_, fun h => ?_⟩ <;> (try simp only [zM, zN] at h) <;> try simp only [h]) | refine Or.inl ?_) | (clear hK K))
  refine AWP.lenB 1 5 rfl rfl fun hlen1 => ?_
  (try rw [lB] at hlen1)
  refine xC (S := Unit) (v.ents) encEnt (fun k s => (4, I .i64 (k : Nat)) :: []) (fun k s => []) [1] [1] (fun k s => v.ents.all treeE = (v.ents.drop k).all treeE) (()) (by simp only [go_sem, zA, zB, zC, zD, zE, zF, zG, reduceCtorEq, zH, zI, zJ, zK, zL, encVal_eq]; exact (by refine xG [] ?_ ?_ rfl rfl rfl <;> repeat first | exact trivial | refine ⟨rfl, ?_⟩ | refine ⟨by (simp only [go_sem, zA, zB, zC, zD, zE, zF, zG, reduceCtorEq, zH, zI, zJ, zK, zL, lA, lB, lC, lD, Nat.zero_add]) <;> rfl, ?_⟩)) ?_ ?_ ?_
  · rfl
  · intro k s x hlt hx hx' hb hok
    simp only [go_sem, zA, zB, zC, zD, zE, zF, zG, reduceCtorEq, zH, zI, zJ, zK, zL]
    rw [all_step hx] at hok
    have hem := lP hx
    have hia := iha x hem
    have hir := ihr x hem
    rw [encVal_eq] at hir
    repeat' (first | (simp only [go_sem, zA, zB, zC, zD, zE, zF, zG, reduceCtorEq, zH, zI, zJ, zK, zL, encVal_eq v, encEnt_eq, lB, hb]; all_goals fail_if_success guard_target =ₛ False) | (with_reducible first | ((first | refine yA rfl ?_ | refine yB rfl ?_ | refine yS ?_ | refine yT (by kernel_rfl) ?_); intro K hK) | (apply hK; clear hK K) | refine yU ?_ | (refine yV (by with_unfolding_all rfl) ?_ ?_ <;> intro h <;> (try simp only [zM, zN] at h) <;> try exact absurd h (by decide)) | refine yW ?_ | refine yX ?_ | refine yY ?_ | (refine ⟨fun h => ?_, fun h => ?_⟩ <;> (try simp only [zM, zN] at h) <;> try simp only [h]) | refine ⟨by omega, encEnt x, hx', ?_⟩ | refine Or.inl ?_) | (clear hK K))
    refine AWP.lenB 5 0 rfl rfl fun hlen2 => ?_
    (try rw [lB] at hlen2)
    refine xC (S := Unit) (x.1) encVal (fun k s => (6, I .i64 (k : Nat)) :: []) (fun k s => []) [1, 4, 5] [1, 5] (fun k s => x.1.all treeB = (x.1.drop k).all treeB) (()) (by simp only [go_sem, zA, zB, zC, zD, zE, zF, zG, reduceCtorEq, zH, zI, zJ, zK, zL, encVal_eq, encEnt_eq]; exact (by refine xG [] ?_ ?_ rfl rfl rfl <;> repeat first | exact trivial | refine ⟨rfl, ?_⟩ | refine ⟨by (simp only [go_sem, zA, zB, zC, zD, zE, zF, zG, reduceCtorEq, zH, zI, zJ, zK, zL, lA, lB, lC, lD, Nat.zero_add]) <;> rfl, ?_⟩)) ?_ ?_ ?_
    · rfl
    · intro i s y hlti hy hy' hbi hoki
      simp only [go_sem, zA, zB, zC, zD, zE, zF, zG, reduceCtorEq, zH, zI, zJ, zK, zL]
      have hiy := hia y (lP hy)
      rw [all_step hy] at hoki
      cases hc : treeB y <;> simp only [hc, Bool.true_and, Bool.false_and] at hoki
      all_goals
        repeat' (first | (simp only [go_sem, zA, zB, zC, zD, zE, zF, zG, reduceCtorEq, zH, zI, zJ, zK, zL, encVal_eq v, encEnt_eq, lB, hbi, hc]; all_goals fail_if_success guard_target =ₛ False) | (with_reducible first | ((first | refine yA rfl ?_ | refine yB rfl ?_ | refine yS ?_ | refine yT (by kernel_rfl) ?_); intro K hK) | (apply hK; clear hK K) | refine yU ?_ | (refine yV (by with_unfolding_all rfl) ?_ ?_ <;> intro h <;> (try simp only [zM, zN] at h) <;> try exact absurd h (by decide)) | refine yW ?_ | refine yX ?_ | refine yY ?_ | (refine ⟨fun h => ?_, fun h => ?_⟩ <;> (try simp only [zM, zN] at h) <;> try simp only [h]) | refine ⟨_, hiy, ?_⟩ | refine ⟨by omega, encVal y, hy', ?_⟩ | refine Or.inl ?_) | (clear hK K))
      ·
        all_goals (first | exact fun _ h => (by cases h) | (refine fin0 ?_; first | rfl | (simp only [hok, hz, hok0, treeE, hoki, zb, cond_true, cond_false, decide_true, decide_false] <;> rfl)))
      ·
        all_goals (rw [wrap_succ hlti hlen2])
        all_goals (refine ⟨(), ?_, (by refine xG [] ?_ ?_ rfl rfl rfl <;> repeat first | exact trivial | refine ⟨rfl, ?_⟩ | refine ⟨by (simp only [go_sem, zA, zB, zC, zD, zE, zF, zG, reduceCtorEq, zH, zI, zJ, zK, zL, lA, lB, lC, lD, Nat.zero_add]) <;> rfl, ?_⟩)⟩)
        all_goals exact hoki
    intro s2 hb2 hok2
    simp only [go_sem, zA, zB, zC, zD, zE, zF, zG, reduceCtorEq, zH, zI, zJ, zK, zL]
    rw [all_end] at hok2
    cases hf : x.2.1 <;> cases hr : treeB x.2.2
    all_goals (simp only [treeE, hok2, hf, hr, Bool.true_and, Bool.false_and, Bool.true_or, Bool.false_or] at hok)
    all_goals
      repeat' (first | (simp only [go_sem, zA, zB, zC, zD, zE, zF, zG, reduceCtorEq, zH, zI, zJ, zK, zL, encVal_eq, encEnt_eq, lB, hb2, hf, hr]; all_goals fail_if_success guard_target =ₛ False) | (with_reducible first | ((first | refine yA rfl ?_ | refine yB rfl ?_ | refine yS ?_ | refine yT (by kernel_rfl) ?_); intro K hK) | (apply hK; clear hK K) | refine yU ?_ | (refine yV (by with_unfolding_all rfl) ?_ ?_ <;> intro h <;> (try simp only [zM, zN] at h) <;> try exact absurd h (by decide)) | refine yW ?_ | refine yX ?_ | refine yY ?_ | (refine ⟨fun h => ?_, fun h => ?_⟩ <;> (try simp only [zM, zN] at h) <;> try simp only [h]) | refine ⟨_, hir, ?_⟩ | refine Or.inl ?_) | (clear hK K))
    any_goals (first | exact fun _ h => (by cases h) | (refine fin0 ?_; simp only [hok, hok0, hz, Bool.and_false, Bool.true_and, Bool.and_true]; done))
    all_goals (rw [wrap_succ hlt hlen1])
    all_goals (refine ⟨(), ?_, (by refine xG [] ?_ ?_ rfl rfl rfl <;> repeat first | exact trivial | refine ⟨rfl, ?_⟩ | refine ⟨by (simp only [go_sem, zA, zB, zC, zD, zE, zF, zG, reduceCtorEq, zH, zI, zJ, zK, zL, lA, lB, lC, lD, Nat.zero_add]) <;> rfl, ?_⟩)⟩)
    all_goals exact hok
  intro s1 hb1 hok1
  simp only [go_sem, zA, zB, zC, zD, zE, zF, zG, reduceCtorEq, zH, zI, zJ, zK, zL]
  rw [all_end] at hok1
  repeat' (first | (simp only [go_sem, zA, zB, zC, zD, zE, zF, zG, reduceCtorEq, zH, zI, zJ, zK, zL, encVal_eq v, lB, hb1]; all_goals fail_if_success guard_target =ₛ False) | (with_reducible first | ((first | refine yA rfl ?_ | refine yB rfl ?_ | refine yS ?_ | refine yT (by kernel_rfl) ?_); intro K hK) | (apply hK; clear hK K) | refine yU ?_ | (refine yV (by with_unfolding_all rfl) ?_ ?_ <;> intro h <;> (try simp only [zM, zN] at h) <;> try exact absurd h (by decide)) | refine yW ?_ | refine yX ?_ | refine yY ?_ | (refine ⟨fun h => ?_, fun h => ?_⟩ <;> (try simp only [zM, zN] at h) <;> try simp only [h]) | refine Or.inl ?_) | (clear hK K))
  all_goals (first | exact fun _ h => (by cases h) | (refine fin0 ?_; first | rfl | (simp only [hok1, hok0, hz, zb, cond_true, cond_false, decide_true, decide_false] <;> rfl)))
termination_by bulkV v
decreasing_by
  · exact bulk_kid hp
  · exact bulk_arg he hp
  · exact bulk_res he
def sameK (x y : KeyD) : Bool := decide (x.kind = y.kind) && (decide (x.text = y.text) && true)
@[go_sem] theorem eqKeyE (x y : KeyD) : eqStT zP 6 33 (encKey x) (encKey y) = some (sameK x y) := by kernel_rfl
theorem sameK_comm (x y : KeyD) : sameK x y = sameK y x := by unfold sameK; rw [show decide (x.kind = y.kind) = decide (y.kind = x.kind) by simp [eq_comm], show decide (x.text = y.text) = decide (y.text = x.text) by simp [eq_comm]]
theorem indexKey_c (l : List KeyD) (s : KeyD) : PC zP 123 [.one (.dat (.sl 2 (l.map encKey))), .st (encKey s)] (I .i64 (findI (fun x => sameK s x) 0 l)) := by
  refine PCB.of_body Tryz.func123 rfl (by decide) Tryz.ntmps123 Tryz.results123 rfl rfl rfl ?_ rfl rfl
  repeat' (first | (simp only [go_sem, zA, zB, zC, zD, zE, zF, zG, reduceCtorEq, zH, zI, zJ, zK, zL, lB]; all_goals fail_if_success guard_target =ₛ False) | (with_reducible first | ((first | refine yA rfl ?_ | refine yS ?_ | refine yT (by kernel_rfl) ?_ | refine yC rfl ?_ | refine yE rfl ?_ | refine yG rfl ?_); intro K hK) | (apply hK; clear hK K) | refine yU ?_ | (refine yV (by with_unfolding_all rfl) ?_ ?_ <;> intro h <;> (try simp only [zM, zN] at h) <;> try exact absurd h (by decide)) | refine yW ?_ | refine yX ?_ | refine yY ?_ | refine yZ mixed (by kernel_rfl) fun K hK => ?_ | refine ⟨(by kernel_rfl : depB _ _ _ = true), ?_⟩ | refine Or.inl ?_) | (clear hK K))
  refine AWP.len 0 rfl fun hlen0 => ?_
  (try rw [lB] at hlen0)
  refine xC (S := Unit) (l) encKey (fun k s => (8, I .i64 (k : Nat)) :: []) (fun k s => []) [0, 3, 7] [3] (fun k u => findI (fun x => sameK s x) 0 l = findI (fun x => sameK s x) k (l.drop k)) (()) (by simp only [go_sem, zA, zB, zC, zD, zE, zF, zG, reduceCtorEq, zH, zI, zJ, zK, zL]; exact (by refine xG [] ?_ ?_ rfl rfl rfl <;> repeat first | exact trivial | refine ⟨rfl, ?_⟩ | refine ⟨by (simp only [go_sem, zA, zB, zC, zD, zE, zF, zG, reduceCtorEq, zH, zI, zJ, zK, zL, lA, lB, lC, lD, Nat.zero_add]) <;> rfl, ?_⟩)) ?_ ?_ ?_
  · rfl
  · intro k u x hlt hx hx' hb hok
    simp only [go_sem, zA, zB, zC, zD, zE, zF, zG, reduceCtorEq, zH, zI, zJ, zK, zL]
    rw [findI_drop _ l k x hx] at hok
    cases hz : sameK s x <;> simp only [hz, cond_true, cond_false] at hok
    all_goals
      repeat' (first | (simp only [go_sem, zA, zB, zC, zD, zE, zF, zG, reduceCtorEq, zH, zI, zJ, zK, zL, lB, hb, hz]; all_goals fail_if_success guard_target =ₛ False) | (with_reducible first | ((first | refine yA rfl ?_ | refine yS ?_ | refine yT (by kernel_rfl) ?_ | refine yC rfl ?_ | refine yE rfl ?_ | refine yG rfl ?_); intro K hK) | (apply hK; clear hK K) | refine yU ?_ | (refine yV (by with_unfolding_all rfl) ?_ ?_ <;> intro h <;> (try simp only [zM, zN] at h) <;> try exact absurd h (by decide)) | refine yW ?_ | refine yX ?_ | refine yY ?_ | refine ⟨by omega, encKey x, hx', ?_⟩ | refine yZ mixed (by kernel_rfl) fun K hK => ?_ | refine ⟨(by kernel_rfl : depB _ _ _ = true), ?_⟩ | refine Or.inl ?_) | (clear hK K))
    ·
      all_goals (rw [wrap_succ hlt hlen0])
      all_goals (refine ⟨(), ?_, (by refine xG [] ?_ ?_ rfl rfl rfl <;> repeat first | exact trivial | refine ⟨rfl, ?_⟩ | refine ⟨by (simp only [go_sem, zA, zB, zC, zD, zE, zF, zG, reduceCtorEq, zH, zI, zJ, zK, zL, lA, lB, lC, lD, Nat.zero_add]) <;> rfl, ?_⟩)⟩)
      all_goals exact hok
    ·
      all_goals (first | exact fun _ h => (by cases h) | (refine fin0 ?_; first | rfl | (simp only [hok, zb, cond_true, cond_false, decide_true, decide_false] <;> rfl)))
  intro s0 hb0 hok0
  simp only [go_sem, zA, zB, zC, zD, zE, zF, zG, reduceCtorEq, zH, zI, zJ, zK, zL]
  rw [List.drop_length] at hok0
  repeat' (first | (simp only [go_sem, zA, zB, zC, zD, zE, zF, zG, reduceCtorEq, zH, zI, zJ, zK, zL, lB, hb0]; all_goals fail_if_success guard_target =ₛ False) | (with_reducible first | ((first | refine yA rfl ?_ | refine yS ?_ | refine yT (by kernel_rfl) ?_ | refine yC rfl ?_ | refine yE rfl ?_ | refine yG rfl ?_); intro K hK) | (apply hK; clear hK K) | refine yU ?_ | (refine yV (by with_unfolding_all rfl) ?_ ?_ <;> intro h <;> (try simp only [zM, zN] at h) <;> try exact absurd h (by decide)) | refine yW ?_ | refine yX ?_ | refine yY ?_ | refine yZ mixed (by kernel_rfl) fun K hK => ?_ | refine ⟨(by kernel_rfl : depB _ _ _ = true), ?_⟩ | refine Or.inl ?_) | (clear hK K))
  all_goals (refine fin0 ?_; rw [hok0]; rfl)
theorem place_c (l : List KeyD) (s : KeyD) : PC zP 101 [.one (.dat (.sl 2 (l.map encKey))), .st (encKey s)] (I .i64 (findI (fun x => sameK s x) 0 l)) := by
  refine PCB.of_body Tryz.func101 rfl (by decide) Tryz.ntmps101 Tryz.results101 rfl rfl rfl ?_ rfl rfl
  repeat' (first | (simp only [go_sem, zA, zB, zC, zD, zE, zF, zG, reduceCtorEq, zH, zI, zJ, zK, zL, lB]; all_goals fail_if_success guard_target =ₛ False) | (with_reducible first | ((first | refine yA rfl ?_ | refine yS ?_ | refine yT (by kernel_rfl) ?_ | refine yC rfl ?_ | refine yE rfl ?_ | refine yG rfl ?_); intro K hK) | (apply hK; clear hK K) | refine yU ?_ | (refine yV (by with_unfolding_all rfl) ?_ ?_ <;> intro h <;> (try simp only [zM, zN] at h) <;> try exact absurd h (by decide)) | refine yW ?_ | refine yX ?_ | refine yY ?_ | refine yZ mixed (by kernel_rfl) fun K hK => ?_ | refine ⟨(by kernel_rfl : depB _ _ _ = true), ?_⟩ | refine Or.inl ?_) | (clear hK K))
  refine AWP.len 0 rfl fun hlen0 => ?_
  (try rw [lB] at hlen0)
  refine xC (S := Unit) (l) encKey (fun k s => (5, I .i64 (k : Nat)) :: []) (fun k s => []) [0, 3] [3] (fun k u => findI (fun x => sameK s x) 0 l = findI (fun x => sameK s x) k (l.drop k)) (()) (by simp only [go_sem, zA, zB, zC, zD, zE, zF, zG, reduceCtorEq, zH, zI, zJ, zK, zL]; exact (by refine xG [] ?_ ?_ rfl rfl rfl <;> repeat first | exact trivial | refine ⟨rfl, ?_⟩ | refine ⟨by (simp only [go_sem, zA, zB, zC, zD, zE, zF, zG, reduceCtorEq, zH, zI, zJ, zK, zL, lA, lB, lC, lD, Nat.zero_add]) <;> rfl, ?_⟩)) ?_ ?_ ?_
  · rfl
  · intro k u x hlt hx hx' hb hok
    simp only [go_sem, zA, zB, zC, zD, zE, zF, zG, reduceCtorEq, zH, zI, zJ, zK, zL]
    rw [findI_drop _ l k x hx] at hok
    cases hz : sameK s x <;> simp only [hz, cond_true, cond_false] at hok <;> rw [sameK_comm] at hz
    all_goals
      repeat' (first | (simp only [go_sem, zA, zB, zC, zD, zE, zF, zG, reduceCtorEq, zH, zI, zJ, zK, zL, lB, hb, hz]; all_goals fail_if_success guard_target =ₛ False) | (with_reducible first | ((first | refine yA rfl ?_ | refine yS ?_ | refine yT (by kernel_rfl) ?_ | refine yC rfl ?_ | refine yE rfl ?_ | refine yG rfl ?_); intro K hK) | (apply hK; clear hK K) | refine yU ?_ | (refine yV (by with_unfolding_all rfl) ?_ ?_ <;> intro h <;> (try simp only [zM, zN] at h) <;> try exact absurd h (by decide)) | refine yW ?_ | refine yX ?_ | refine yY ?_ | refine ⟨by omega, encKey x, hx', ?_⟩ | refine yZ mixed (by kernel_rfl) fun K hK => ?_ | refine ⟨(by kernel_rfl : depB _ _ _ = true), ?_⟩ | refine Or.inl ?_) | (clear hK K))
    ·
      all_goals (rw [wrap_succ hlt hlen0])
      all_goals (refine ⟨(), ?_, (by refine xG [] ?_ ?_ rfl rfl rfl <;> repeat first | exact trivial | refine ⟨rfl, ?_⟩ | refine ⟨by (simp only [go_sem, zA, zB, zC, zD, zE, zF, zG, reduceCtorEq, zH, zI, zJ, zK, zL, lA, lB, lC, lD, Nat.zero_add]) <;> rfl, ?_⟩)⟩)
      all_goals exact hok
    ·
      all_goals (first | exact fun _ h => (by cases h) | (refine fin0 ?_; first | rfl | (simp only [hok, zb, cond_true, cond_false, decide_true, decide_false] <;> rfl)))
  intro s0 hb0 hok0
  simp only [go_sem, zA, zB, zC, zD, zE, zF, zG, reduceCtorEq, zH, zI, zJ, zK, zL]
  rw [List.drop_length] at hok0
  repeat' (first | (simp only [go_sem, zA, zB, zC, zD, zE, zF, zG, reduceCtorEq, zH, zI, zJ, zK, zL, lB, hb0]; all_goals fail_if_success guard_target =ₛ False) | (with_reducible first | ((first | refine yA rfl ?_ | refine yS ?_ | refine yT (by kernel_rfl) ?_ | refine yC rfl ?_ | refine yE rfl ?_ | refine yG rfl ?_); intro K hK) | (apply hK; clear hK K) | refine yU ?_ | (refine yV (by with_unfolding_all rfl) ?_ ?_ <;> intro h <;> (try simp only [zM, zN] at h) <;> try exact absurd h (by decide)) | refine yW ?_ | refine yX ?_ | refine yY ?_ | refine yZ mixed (by kernel_rfl) fun K hK => ?_ | refine ⟨(by kernel_rfl : depB _ _ _ = true), ?_⟩ | refine Or.inl ?_) | (clear hK K))
  all_goals (refine fin0 ?_; rw [hok0]; rfl)
theorem find_cases {α : Type} (p : α → Bool) : ∀ (l : List α) (k : Nat), findI p k l = -1 ∨ ∃ n : Nat, findI p k l = n ∧ k ≤ n ∧ n < k + l.length
  | [], k => .inl rfl
  | x :: l, k => by
    simp only [findI]
    cases p x
    · rcases find_cases p l (k + 1) with h | ⟨n, h, h1, h2⟩
      · exact .inl h
      · exact .inr ⟨n, h, by omega, by simp only [lC]; omega⟩
    · exact .inr ⟨k, rfl, by omega, by simp only [lC]; omega⟩
end Go.Proofs.YteobojeemflggaaGreat






set_option linter.unusedVariables false
set_option linter.unusedSimpArgs false
namespace Go.Sx
open Go.Proofs Go.Sort
variable {P : Program}
theorem repRows_str {M : Mem} : ∀ {l : List (List UInt8)} {vs : List Value}, repRows M 1 (l.map Sx.encStr) vs ↔ vs = l.map Go.Proofs.encStr
  | [], vs => by simp [repRows]
  | x :: l, vs => by
    simp only [lE, repRows, repRows_str (l := l)]
    constructor
    · rintro ⟨v1, v2, e, _, h1, h2⟩
      simp only [Sx.encStr, repRow, C.rep] at h1
      obtain ⟨v, vs', e1, e2, e3⟩ := h1
      subst e1; subst e2; subst e3; subst h2
      exact e
    · intro e
      refine ⟨[Go.Proofs.encStr x], _, e, rfl, ?_, rfl⟩
      simp only [Sx.encStr, repRow, C.rep]
      exact ⟨_, [], rfl, rfl, rfl⟩
theorem onCells_atS {w : World} {b : Nat} {c : Array Value} {et : TypeId} {fz : Nat × Nat} (f : Array Value → Array Value) (h : w.heap[b]? = some (.cells c et fz)) : (mapBlock w b f).heap[b]? = some (.cells (f c) et fz) := by
  unfold mapBlock
  simp [Array.getElem?_modify, h, onCells]
theorem onCells_otherS {w : World} {b i : Nat} (f : Array Value → Array Value) (h : i ≠ b) : (mapBlock w b f).heap[i]? = w.heap[i]? := by
  unfold mapBlock
  simp [Array.getElem?_modify, Ne.symm h]
theorem str_row_c {f : FuncId} (hent : Ent P f) (l l' tail : List (List UInt8)) (hlen : l'.length + tail.length = l.length) (r : T) (R : Option Addr → Nat → Value)
    (hrep : ∀ M ν, r.rep M ν (R ((ν pin).blk.map fun b => ⟨b, 0, none⟩) (ν pin).cap))
    (hcall : ∀ b cap w, Holds Go.Proofs.encStr w b 0 l.toArray → b < w.heap.size → l.length ≤ cap → cap ≤ maxLen →
      Calls P f #[.slice (some ⟨b, 0, none⟩) l.length cap] w fun e w' => e = .returned (R (some ⟨b, 0, none⟩) cap) ∧ ∃ n os, w' = grow (putRow Go.Proofs.encStr (Sort.ahead w n) b 0 (l' ++ tail).toArray) os)
    (hnone : l = [] → ∀ cap w, Calls P f #[.slice none 0 cap] w fun e w' => e = .returned (R none cap) ∧ w' = w) :
    PCB P f [.one (.own pin l.length)] [(pin, .row 1 (l.map Sx.encStr))] r [(pin, .row 1 (l'.map Sx.encStr))] := by
  refine ⟨hent, ?_⟩
  intro M ν w vs hs hreps
  simp only [T.reps, T.rep, Cell.rep] at hreps
  obtain ⟨v1, vs1, rfl, rfl, rfl⟩ := hreps
  have hr := hs.res pin (.row 1 (l.map Sx.encStr)) (by simp)
  simp only [Res.ok, lB] at hr
  obtain ⟨hc1, hc2, hr⟩ := hr
  have hrp := hrep M ν
  rcases hr with ⟨hn, hc0⟩ | ⟨b, c, et, mid, post, hb, hheap, htl, hrows, hcs⟩
  · have hl0 : l = [] := List.length_eq_zero_iff.1 (by omega)
    have hl1 : l' = [] := List.length_eq_zero_iff.1 (by rw [hl0] at hlen; simp at hlen; exact List.length_eq_zero_iff.2 hlen.1)
    have := hnone hl0 (ν pin).cap w
    rw [hl0] at hs ⊢
    rw [hl1]
    rw [hn] at hrp ⊢
    refine Calls.mono this ?_
    rintro e w' ⟨rfl, rfl⟩
    exact ⟨_, M, rfl, Mem.ext.refl _ M, hrp, hs⟩
  · have hrow : mid = l.map Go.Proofs.encStr := repRows_str.1 hrows
    have hblt : b < w.heap.size := (Array.getElem?_eq_some_iff.1 hheap).1
    have hH : Holds Go.Proofs.encStr w b 0 l.toArray := by
      intro j hj
      have hj1 : j < l.length := by simpa using hj
      have hj2 : j < mid.length := by rw [hrow]; simpa using hj1
      refine ⟨?_, by simp [World.frozen?, hheap]⟩
      simp only [World.cell?, hheap, Nat.zero_add, Option.isSome_none, Bool.false_eq_true, if_false]
      rw [← Array.getElem?_toList, htl, List.getElem?_append_left hj2, hrow, List.getElem?_map, List.getElem?_eq_getElem hj1]
      simp [hj1]
    have hcl := hcall b (ν pin).cap w hH hblt hc1 hc2
    rw [hb] at hrp ⊢
    refine Calls.mono hcl ?_
    rintro e w' ⟨rfl, n, os, rfl⟩
    have hDne : ∀ i, i < w.heap.size → i ≠ b → (grow (putRow Go.Proofs.encStr (Sort.ahead w n) b 0 (l' ++ tail).toArray) os).heap[i]? = w.heap[i]? := by
      intro i hi hne
      rw [heap_grow_old _ _ (by show i < (mapBlock _ _ _).heap.size; simp [mapBlock, ahead]; exact hi)]
      exact onCells_otherS _ hne
    have hDb : (grow (putRow Go.Proofs.encStr (Sort.ahead w n) b 0 (l' ++ tail).toArray) os).heap[b]? = some (.cells (putCells Go.Proofs.encStr 0 (l' ++ tail).toArray c) et (0, 0)) := by
      rw [heap_grow_old _ _ (by show b < (mapBlock _ _ _).heap.size; simp [mapBlock, ahead]; exact hblt)]
      exact onCells_atS _ hheap
    have hnew : (putCells Go.Proofs.encStr 0 (l' ++ tail).toArray c).toList = l'.map Go.Proofs.encStr ++ (tail.map Go.Proofs.encStr ++ post) := by
      rw [← List.append_assoc, ← List.map_append]
      have hfs : ((l' ++ tail).map Go.Proofs.encStr).length = mid.length := by rw [hrow]; simp [hlen]
      apply List.ext_getElem?
      intro t
      rw [Array.getElem?_toList]
      unfold putCells
      rw [Array.getElem?_mapIdx]
      have hsz : (l' ++ tail).toArray.size = mid.length := by rw [hrow]; simp [hlen]
      by_cases ht : t < mid.length
      · rw [List.getElem?_append_left (by rw [hfs]; exact ht)]
        have hct : t < c.size := by rw [← Array.length_toList, htl, lA]; omega
        have hta : t < (l' ++ tail).length := by rw [← List.size_toArray, hsz]; exact ht
        rw [Array.getElem?_eq_getElem hct, Option.map_some, if_pos ⟨Nat.zero_le _, by omega⟩, Nat.sub_zero, List.getElem?_map, List.getElem?_eq_getElem hta, getElem!_pos _ t (by simpa using hta)]
        simp
      · rw [List.getElem?_append_right (by rw [hfs]; omega), hfs]
        have : c[t]? = post[t - mid.length]? := by rw [← Array.getElem?_toList, htl, List.getElem?_append_right (by omega)]
        rw [this]
        cases post[t - mid.length]? with
        | none => rfl
        | some y => rw [Option.map_some, if_neg (by omega)]
    have haway := hs.away pin (.row 1 (l.map Sx.encStr)) b (by simp) hb
    have hDin : boxBlocks [(pin, Res.row 1 (l.map Sx.encStr))] ν b := ⟨pin, .row 1 (l.map Sx.encStr), by simp, hb⟩
    refine ⟨_, M, rfl, Mem.ext.refl _ M, hrp, ⟨rfl, rfl, rfl, ?_, ?_, ?_, ?_, ?_, ?_, ?_, by simp⟩⟩
    · show w.drawn ≤ w.drawn + n; omega
    · show w.heap.size ≤ (grow (putRow Go.Proofs.encStr (Sort.ahead w n) b 0 (l' ++ tail).toArray) os).heap.size
      simp [grow, putRow, mapBlock, ahead]
    · intro i hi hD
      exact hDne i hi (fun e => hD (by rw [e]; exact hDin))
    · intro i o ho
      have h1 := hs.fro i o ho
      have hi : i < w.heap.size := (Array.getElem?_eq_some_iff.1 h1).1
      have hne : i ≠ b := by intro e; subst e; rw [haway.1] at ho; cases ho
      rw [hDne i hi hne]; exact h1
    · intro j r hm
      simp only [lN, Prod.mk.injEq] at hm
      obtain ⟨rfl, rfl⟩ := hm
      simp only [Res.ok, lB]
      refine ⟨by omega, hc2, .inr ⟨b, _, et, l'.map Go.Proofs.encStr, _, hb, hDb, hnew, repRows_str.2 rfl, ?_⟩⟩
      rw [← hcs]; simp [putCells]
    · intro j r i hm hi
      simp only [lN, Prod.mk.injEq] at hm
      obtain ⟨rfl, rfl⟩ := hm
      exact hs.away pin (.row 1 (l.map Sx.encStr)) i (by simp) hi
    · intro j r j' r' i hm hm' _ _
      simp only [lN, Prod.mk.injEq] at hm hm'
      rw [hm.1, hm'.1]
theorem sortStr_c {ρ : Go.Shelf.Ren} (L : SlLaysM.n6 P ρ) (l : List (List UInt8)) (hsz : l.length < 4611686018427387904) :
    PCB P (ρ.f 6) [.one (.own pin l.length)] [(pin, .row 1 (l.map Sx.encStr))] (.tup []) [(pin, .row 1 ((l.mergeSort fun x y => decide (x ≤ y)).map Sx.encStr))] := by
  have hent : Ent P (ρ.f 6) := by
    obtain ⟨nm, hn, hf⟩ := L.f6
    exact ⟨_, hf, hn, rfl⟩
  refine str_row_c hent l _ [] (by simp [List.length_mergeSort]) _ (fun _ _ => .tuple #[]) (fun M ν => by simp [T.rep, T.reps]) (fun b cap w hH hb _ _ => ?_) (fun hl cap w => ?_)
  · rw [List.append_nil]
    exact AnyM.slices_Sort_string L b 0 cap l w hH hb hsz
  · exact AnyM.slices_Sort_string_none L none cap w
theorem comp_len (zs : List (List UInt8)) : (Lib.compact zs).length ≤ zs.length := by
  unfold Lib.compact Lib.compactUpTo
  rw [lB]
  exact Nat.le_trans (List.length_filter_le _ _) (by simp)
theorem compactStr_c {ρ : Go.Shelf.Ren} (L : SlLaysN.n44 P ρ) (l : List (List UInt8)) :
    PCB P (ρ.f 44) [.one (.own pin l.length)] [(pin, .row 1 (l.map Sx.encStr))] (.one (.own pin (Lib.compact l).length)) [(pin, .row 1 ((Lib.compact l).map Sx.encStr))] := by
  have hent : Ent P (ρ.f 44) := by
    obtain ⟨nm, hn, hf⟩ := L.f44
    exact ⟨_, hf, hn, rfl⟩
  have hle := comp_len l
  refine str_row_c hent l _ (List.replicate (l.length - (Lib.compact l).length) []) (by simp; omega) _ (fun a cap => .slice a (Lib.compact l).length cap) (fun M ν => by simp only [T.rep, Cell.rep]) (fun b cap w hH hb hc hm => ?_) (fun hl cap w => ?_)
  · refine Calls.mono (AnyG.slices_Compact_string L b 0 cap l w hH (Nat.le_trans hc hm) hc) ?_
    rintro e w' ⟨rfl, q, rfl⟩
    exact ⟨rfl, q, #[], by simp⟩
  · subst hl
    exact AnyG.slices_Compact_string_empty L none cap w
theorem PCBk.own1 {f : FuncId} {sz : Nat} {rows rows' : List (List C)} {m : Nat} (k : Nat) (h : PCB P f [.one (.own pin m)] [(pin, .row sz rows)] (.tup []) [(pin, .row sz rows')]) :
    PCBk P f [.one (.own k m)] k (.row sz rows) (.tup []) (.row sz rows') := PCBk.mk k h
theorem PCBk.own2 {f : FuncId} {sz : Nat} {rows rows' : List (List C)} {m m' : Nat} (k : Nat) (h : PCB P f [.one (.own pin m)] [(pin, .row sz rows)] (.one (.own pin m')) [(pin, .row sz rows')]) :
    PCBk P f [.one (.own k m)] k (.row sz rows) (.one (.own k m')) (.row sz rows') := PCBk.mk k h
end Go.Sx
set_option linter.unusedVariables false
namespace Go.Proofs.YteobojeemflggaaGreat
open Go Go.Sx
theorem less_eq (x y : List UInt8) : Op.bytesLess x y = decide (x < y) := Go.Proofs.bytesLess_eq x y
theorem strict_ext : ∀ a b : List (List UInt8), a.Pairwise (· < ·) → b.Pairwise (· < ·) → (∀ x, x ∈ a ↔ x ∈ b) → a = b
  | [], b, _, _, h => by
    cases b with
    | nil => rfl
    | cons y b => have := (h y).2 (by simp); simp at this
  | x :: a, [], _, _, h => by have := (h x).1 (by simp); simp at this
  | x :: a, y :: b, ha, hb, h => by
    rw [List.pairwise_cons] at ha hb
    have hxy : x = y := by
      rcases List.mem_cons.1 ((h x).1 (by simp)) with e | h1
      · exact e
      · rcases List.mem_cons.1 ((h y).2 (by simp)) with e | h2
        · exact e.symm
        · exact absurd (hb.1 x h1) (List.lt_asymm (ha.1 y h2))
    subst hxy
    congr 1
    refine strict_ext a b ha.2 hb.2 fun z => ⟨fun hz => ?_, fun hz => ?_⟩
    · rcases List.mem_cons.1 ((h z).1 (List.mem_cons_of_mem _ hz)) with e | hz'
      · subst e; exact absurd (ha.1 z hz) (List.lt_irrefl z)
      · exact hz'
    · rcases List.mem_cons.1 ((h z).2 (List.mem_cons_of_mem _ hz)) with e | hz'
      · subst e; exact absurd (hb.1 z hz) (List.lt_irrefl z)
      · exact hz'
theorem tw_all {α : Type} (p : α → Bool) : ∀ l : List α, ∀ x ∈ l.take (tw p l), p x = true
  | [], x, h => by simp [tw] at h
  | y :: l, x, h => by
    simp only [tw] at h
    cases hp : p y
    · rw [hp] at h; simp at h
    · rw [hp, cond_true, Nat.add_comm, List.take_succ_cons] at h
      rcases List.mem_cons.1 h with rfl | h
      · exact hp
      · exact tw_all p l x h
theorem tw_next {α : Type} (p : α → Bool) : ∀ (l : List α) (y : α), l[tw p l]? = some y → p y = false
  | [], y, h => by simp at h
  | z :: l, y, h => by
    simp only [tw] at h
    cases hp : p z
    · rw [hp] at h; simp at h; subst h; exact hp
    · rw [hp, cond_true, Nat.add_comm, List.getElem?_cons_succ] at h
      exact tw_next p l y h
theorem ins_mem (s : List (List UInt8)) (x z : List UInt8) : z ∈ insS s x ↔ z = x ∨ z ∈ s := by
  unfold insS
  cases h : decide (s[tw (fun y => Op.bytesLess y x) s]? = some x) <;> simp only [cond_true, cond_false]
  · unfold putAt
    have : z ∈ s ↔ z ∈ s.take (tw (fun y => Op.bytesLess y x) s) ∨ z ∈ s.drop (tw (fun y => Op.bytesLess y x) s) := by rw [← List.mem_append, List.take_append_drop]
    rw [List.mem_append, List.mem_append, this]
    simp only [lN]
    constructor
    · rintro ((h | h) | h)
      · exact .inr (.inl h)
      · exact .inl h
      · exact .inr (.inr h)
    · rintro (h | h | h)
      · exact .inl (.inr h)
      · exact .inl (.inl h)
      · exact .inr h
  · have hm : x ∈ s := lP (of_decide_eq_true h)
    constructor
    · exact .inr
    · rintro (rfl | h)
      · exact hm
      · exact h
theorem ins_strict (s : List (List UInt8)) (x : List UInt8) (hs : s.Pairwise (· < ·)) : (insS s x).Pairwise (· < ·) := by
  unfold insS
  cases h : decide (s[tw (fun y => Op.bytesLess y x) s]? = some x) <;> simp only [cond_true, cond_false]
  · have ht := tw_all (fun y => Op.bytesLess y x) s
    have hn := tw_next (fun y => Op.bytesLess y x) s
    generalize tw (fun y => Op.bytesLess y x) s = k at *
    have hsp : (s.take k ++ s.drop k).Pairwise (· < ·) := by rw [List.take_append_drop]; exact hs
    rw [List.pairwise_append] at hsp
    obtain ⟨h1, h2, h3⟩ := hsp
    have hx1 : ∀ y ∈ s.take k, y < x := fun y hy => by have := ht y hy; rw [less_eq] at this; exact of_decide_eq_true this
    have hx2 : ∀ y ∈ s.drop k, x < y := by
      cases hd : s.drop k with
      | nil => intro y hy; cases hy
      | cons z t =>
        have hz : s[k]? = some z := by
          have := List.getElem?_drop (xs := s) (i := k) (j := 0)
          rw [hd] at this; simpa using this.symm
        have hzx : ¬ z < x := by have := hn z hz; rw [less_eq] at this; exact of_decide_eq_false this
        have hne : z ≠ x := by intro e; subst e; rw [hz] at h; simp at h
        have hxz : x < z := by
          rcases Classical.em (x < z) with hq | hq
          · exact hq
          · exact absurd (List.le_antisymm (List.not_lt.1 hq) (List.not_lt.1 hzx)) hne
        rw [hd, List.pairwise_cons] at h2
        intro y hy
        rcases List.mem_cons.1 hy with rfl | hy
        · exact hxz
        · exact List.lt_trans hxz (h2.1 y hy)
    unfold putAt
    rw [List.append_assoc, List.pairwise_append]
    refine ⟨h1, ?_, ?_⟩
    · rw [List.singleton_append, List.pairwise_cons]
      exact ⟨hx2, h2⟩
    · intro a ha b hb
      rw [List.singleton_append] at hb
      rcases List.mem_cons.1 hb with rfl | hb
      · exact hx1 a ha
      · exact h3 a ha b hb
  · exact hs
theorem sortedV_spec (l : List (List UInt8)) : (sortedV l).Pairwise (· < ·) ∧ ∀ z, z ∈ sortedV l ↔ z ∈ l := by
  have : ∀ (l s : List (List UInt8)), s.Pairwise (· < ·) → (l.foldl insS s).Pairwise (· < ·) ∧ ∀ z, z ∈ l.foldl insS s ↔ z ∈ s ∨ z ∈ l := by
    intro l
    induction l with
    | nil => intro s hs; exact ⟨hs, fun z => by simp⟩
    | cons x l ih =>
      intro s hs
      obtain ⟨h1, h2⟩ := ih (insS s x) (ins_strict s x hs)
      refine ⟨h1, fun z => ?_⟩
      rw [List.foldl_cons, h2, ins_mem]
      simp only [List.mem_cons]
      constructor
      · rintro ((h | h) | h)
        · exact .inr (.inl h)
        · exact .inl h
        · exact .inr (.inr h)
      · rintro (h | h | h)
        · exact .inl (.inr h)
        · exact .inl (.inl h)
        · exact .inr h
  obtain ⟨h1, h2⟩ := this l [] List.Pairwise.nil
  exact ⟨h1, fun z => by unfold sortedV; rw [h2]; simp⟩
theorem compact_spec (d : Array (List UInt8)) (hd : ∀ i j, i < j → j < d.size → d[i]! ≤ d[j]!) : ∀ m, m ≤ d.size →
    (Lib.compactUpTo d m).Pairwise (· < ·) ∧ (∀ z, z ∈ Lib.compactUpTo d m ↔ ∃ j, j < m ∧ d[j]! = z) := by
  intro m
  induction m with
  | zero => intro _; exact ⟨by simp [Lib.compactUpTo], fun z => by simp [Lib.compactUpTo]⟩
  | succ m ih =>
    intro hm
    obtain ⟨h1, h2⟩ := ih (by omega)
    rw [Lib.compactUpTo_succ]
    by_cases hk : Lib.keeps d m = true
    · rw [if_pos hk]
      refine ⟨?_, fun z => ?_⟩
      · rw [List.pairwise_append]
        refine ⟨h1, by simp, fun a ha b hb => ?_⟩
        simp only [lN] at hb
        subst hb
        obtain ⟨j, hj, rfl⟩ := (h2 a).1 ha
        have hm0 : m ≠ 0 := by omega
        have hne : d[m]! ≠ d[m - 1]! := by
          unfold Lib.keeps at hk
          rcases of_decide_eq_true hk with h | h
          · exact absurd h hm0
          · exact h
        have hle : d[m - 1]! ≤ d[m]! := hd (m - 1) m (by omega) (by omega)
        have hlt : d[m - 1]! < d[m]! := by
          rcases Classical.em (d[m - 1]! < d[m]!) with hq | hq
          · exact hq
          · exact absurd (List.le_antisymm (List.not_lt.1 hq) hle) hne
        rcases Nat.lt_or_ge j (m - 1) with hj2 | hj2
        · have h3 := hd j (m - 1) hj2 (by omega)
          rcases Classical.em (d[j]! < d[m]!) with hq | hq
          · exact hq
          · exact absurd (List.le_trans (List.not_lt.1 hq) h3) (List.not_le.2 hlt)
        · have : j = m - 1 := by omega
          rw [this]; exact hlt
      · rw [List.mem_append, h2]
        simp only [lN]
        constructor
        · rintro (⟨j, hj, rfl⟩ | rfl)
          · exact ⟨j, by omega, rfl⟩
          · exact ⟨m, by omega, rfl⟩
        · rintro ⟨j, hj, rfl⟩
          rcases Nat.lt_or_ge j m with h | h
          · exact .inl ⟨j, h, rfl⟩
          · have : j = m := by omega
            rw [this]; exact .inr rfl
    · rw [if_neg hk, List.append_nil]
      refine ⟨h1, fun z => ?_⟩
      rw [h2]
      constructor
      · rintro ⟨j, hj, rfl⟩; exact ⟨j, by omega, rfl⟩
      · rintro ⟨j, hj, rfl⟩
        rcases Nat.lt_or_ge j m with h | h
        · exact ⟨j, h, rfl⟩
        · have e : j = m := by omega
          subst e
          have hkn : ¬ (j = 0 ∨ d[j]! ≠ d[j - 1]!) := fun hh => hk (decide_eq_true hh)
          have h0 : j ≠ 0 := fun hh => hkn (.inl hh)
          have he : d[j]! = d[j - 1]! := Classical.byContradiction fun hh => hkn (.inr hh)
          exact ⟨j - 1, by omega, he.symm⟩
theorem compact_sort (l : List (List UInt8)) : Lib.compact (l.mergeSort fun x y => decide (x ≤ y)) = sortedV l := by
  have hsort := List.pairwise_mergeSort (le := fun x y : List UInt8 => decide (x ≤ y)) (fun a b c h k => by
      simp only [decide_eq_true_eq] at *; exact List.le_trans h k) (fun a b => by
      simp only [Bool.or_eq_true, decide_eq_true_eq]; exact List.le_total a b) l
  have hperm := List.mergeSort_perm l (fun x y => decide (x ≤ y))
  generalize l.mergeSort (fun x y => decide (x ≤ y)) = s at *
  have hd : ∀ i j, i < j → j < s.toArray.size → s.toArray[i]! ≤ s.toArray[j]! := by
    intro i j hij hj
    have hj' : j < s.length := by simpa using hj
    have := List.pairwise_iff_getElem.1 hsort i j (by omega) hj' hij
    rw [getElem!_pos _ i (by simp; omega), getElem!_pos _ j hj]
    simpa using this
  obtain ⟨h1, h2⟩ := compact_spec s.toArray hd s.length (by simp)
  obtain ⟨h3, h4⟩ := sortedV_spec l
  refine strict_ext _ _ h1 h3 fun z => ?_
  show z ∈ Lib.compactUpTo s.toArray s.length ↔ _
  rw [h2, h4, ← hperm.mem_iff]
  constructor
  · rintro ⟨j, hj, rfl⟩
    rw [getElem!_pos _ j (by simpa using hj)]
    simp
  · intro hz
    obtain ⟨j, hj, rfl⟩ := List.mem_iff_getElem.1 hz
    exact ⟨j, hj, by rw [getElem!_pos _ j (by simpa using hj)]; simp⟩
end Go.Proofs.YteobojeemflggaaGreat
namespace Go.Proofs
open Go.Shelf
def Tryz.sortS_ren : Go.Shelf.Ren := ⟨fun | 6 => 71 | 8 => 104 | 9 => 103 | 19 => 136 | 20 => 137 | 21 => 127 | 22 => 128 | 23 => 129 | 24 => 130 | 25 => 131 | 26 => 132 | 27 => 133 | 28 => 134 | 29 => 135 | 36 => 155 | 31 => 156 | 32 => 157 | 37 => 158 | 38 => 159 | 39 => 160 | 41 => 168 | n => n, fun | 27 => 23 | 29 => 9 | 3 => 3 | 32 => 110 | 26 => 23 | 0 => 0 | 44 => 131 | 46 => 133 | 4 => 4 | 36 => 123 | 35 => 122 | 41 => 128 | 5 => 5 | 9 => 9 | 53 => 144 | 57 => 148 | 63 => 154 | 64 => 155 | n => n, fun | n => n⟩
theorem Tryz.sortS : Go.Proofs.SlLaysM.n6 zP Tryz.sortS_ren := {
  mixed := by kernel_rfl,
  f6 := ⟨"slices.Sort[[]string,string]", by decide, Tryz.func71.trans (congrArg some (by kernel_rfl))⟩,
  f8 := Tryz.func104.trans (congrArg some (by kernel_rfl)),
  f9 := ⟨"slices.pdqsortOrdered[string]", by decide, Tryz.func103.trans (congrArg some (by kernel_rfl))⟩,
  f19 := Tryz.func136.trans (congrArg some (by kernel_rfl)),
  f20 := Tryz.func137.trans (congrArg some (by kernel_rfl)),
  f21 := ⟨"slices.insertionSortOrdered[string]", by decide, Tryz.func127.trans (congrArg some (by kernel_rfl))⟩,
  f22 := ⟨"slices.heapSortOrdered[string]", by decide, Tryz.func128.trans (congrArg some (by kernel_rfl))⟩,
  f23 := ⟨"slices.breakPatternsOrdered[string]", by decide, Tryz.func129.trans (congrArg some (by kernel_rfl))⟩,
  f24 := ⟨"slices.choosePivotOrdered[string]", by decide, Tryz.func130.trans (congrArg some (by kernel_rfl))⟩,
  f25 := ⟨"slices.reverseRangeOrdered[string]", by decide, Tryz.func131.trans (congrArg some (by kernel_rfl))⟩,
  f26 := ⟨"slices.partialInsertionSortOrdered[string]", by decide, Tryz.func132.trans (congrArg some (by kernel_rfl))⟩,
  f27 := ⟨"cmp.Less[string]", by decide, Tryz.func133.trans (congrArg some (by kernel_rfl))⟩,
  f28 := ⟨"slices.partitionEqualOrdered[string]", by decide, Tryz.func134.trans (congrArg some (by kernel_rfl))⟩,
  f29 := ⟨"slices.partitionOrdered[string]", by decide, Tryz.func135.trans (congrArg some (by kernel_rfl))⟩,
  f31 := Tryz.func156.trans (congrArg some (by kernel_rfl)),
  f32 := Tryz.func157.trans (congrArg some (by kernel_rfl)),
  f36 := ⟨"slices.siftDownOrdered[string]", by decide, Tryz.func155.trans (congrArg some (by kernel_rfl))⟩,
  f37 := ⟨"slices.medianAdjacentOrdered[string]", by decide, Tryz.func158.trans (congrArg some (by kernel_rfl))⟩,
  f38 := ⟨"slices.medianOrdered[string]", by decide, Tryz.func159.trans (congrArg some (by kernel_rfl))⟩,
  f39 := ⟨"cmp.isNaN[string]", by decide, Tryz.func160.trans (congrArg some (by kernel_rfl))⟩,
  f41 := ⟨"slices.order2Ordered[string]", by decide, Tryz.func168.trans (congrArg some (by kernel_rfl))⟩,
  t0 := Tryz.underlying0,
  a0 := Tryz.isAgg0,
  z0 := Tryz.sizeOf0,
  v0 := Tryz.zeroValue0,
  t3 := Tryz.underlying3,
  a3 := Tryz.isAgg3,
  z3 := Tryz.sizeOf3,
  v3 := Tryz.zeroValue3,
  t4 := Tryz.underlying4,
  a4 := Tryz.isAgg4,
  z4 := Tryz.sizeOf4,
  v4 := Tryz.zeroValue4,
  t5 := Tryz.underlying5,
  a5 := Tryz.isAgg5,
  z5 := Tryz.sizeOf5,
  v5 := Tryz.zeroValue5,
  t9 := Tryz.underlying9,
  a9 := Tryz.isAgg9,
  z9 := Tryz.sizeOf9,
  v9 := Tryz.zeroValue9,
  t26 := Tryz.underlying23,
  a26 := Tryz.isAgg23,
  z26 := Tryz.sizeOf23,
  v26 := Tryz.zeroValue23,
  t27 := Tryz.underlying23,
  a27 := Tryz.isAgg23,
  z27 := Tryz.sizeOf23,
  v27 := Tryz.zeroValue23,
  t29 := Tryz.underlying9,
  a29 := Tryz.isAgg9,
  z29 := Tryz.sizeOf9,
  v29 := Tryz.zeroValue9,
  t32 := Tryz.underlying110,
  a32 := Tryz.isAgg110,
  z32 := Tryz.sizeOf110,
  v32 := Tryz.zeroValue110,
  t35 := Tryz.underlying122,
  a35 := Tryz.isAgg122,
  z35 := Tryz.sizeOf122,
  v35 := Tryz.zeroValue122,
  t36 := Tryz.underlying123,
  a36 := Tryz.isAgg123,
  z36 := Tryz.sizeOf123,
  v36 := Tryz.zeroValue123,
  t41 := Tryz.underlying128,
  a41 := Tryz.isAgg128,
  z41 := Tryz.sizeOf128,
  v41 := Tryz.zeroValue128,
  t44 := Tryz.underlying131,
  a44 := Tryz.isAgg131,
  z44 := Tryz.sizeOf131,
  v44 := Tryz.zeroValue131,
  t46 := Tryz.underlying133,
  a46 := Tryz.isAgg133,
  z46 := Tryz.sizeOf133,
  v46 := Tryz.zeroValue133,
  t53 := Tryz.underlying144,
  a53 := Tryz.isAgg144,
  z53 := Tryz.sizeOf144,
  v53 := Tryz.zeroValue144,
  t57 := Tryz.underlying148,
  a57 := Tryz.isAgg148,
  z57 := Tryz.sizeOf148,
  v57 := Tryz.zeroValue148,
  t63 := Tryz.underlying154,
  a63 := Tryz.isAgg154,
  z63 := Tryz.sizeOf154,
  v63 := Tryz.zeroValue154,
  t64 := Tryz.underlying155,
  a64 := Tryz.isAgg155,
  z64 := Tryz.sizeOf155,
  v64 := Tryz.zeroValue155 }
def Tryz.compS_ren : Go.Shelf.Ren := ⟨fun | 44 => 73 | n => n, fun | 25 => 23 | 26 => 9 | 3 => 3 | 4 => 4 | 0 => 0 | n => n, fun | n => n⟩
theorem Tryz.compS : Go.Proofs.SlLaysN.n44 zP Tryz.compS_ren := {
  mixed := by kernel_rfl,
  f44 := ⟨"slices.Compact[[]string,string]", by decide, Tryz.func73.trans (congrArg some (by kernel_rfl))⟩,
  t0 := Tryz.underlying0,
  a0 := Tryz.isAgg0,
  z0 := Tryz.sizeOf0,
  v0 := Tryz.zeroValue0,
  t3 := Tryz.underlying3,
  a3 := Tryz.isAgg3,
  z3 := Tryz.sizeOf3,
  v3 := Tryz.zeroValue3,
  t4 := Tryz.underlying4,
  a4 := Tryz.isAgg4,
  z4 := Tryz.sizeOf4,
  v4 := Tryz.zeroValue4,
  t25 := Tryz.underlying23,
  a25 := Tryz.isAgg23,
  z25 := Tryz.sizeOf23,
  v25 := Tryz.zeroValue23,
  t26 := Tryz.underlying9,
  a26 := Tryz.isAgg9,
  z26 := Tryz.sizeOf9,
  v26 := Tryz.zeroValue9,
  i26 := by kernel_rfl }
end Go.Proofs
set_option linter.unusedSimpArgs false
set_option linter.unusedVariables false
set_option maxRecDepth 20000
set_option maxHeartbeats 64000000
namespace Go.Proofs.YteobojeemflggaaGreat
open Go Go.Sx
def dupP (g : Pat) : Bool := decide (((sortedV (collP g)).length : Int) < ((collP g).length : Int))
def okP (g : Pat) : Bool := !decide ((40 : Int) < (cntP g : Int)) && (treeP g && !dupP g)
def codeP (g : Pat) : Int := bif decide ((40 : Int) < (cntP g : Int)) then 2 else bif treeP g then (bif dupP g then 6 else 0) else 1
theorem codeP_ok (g : Pat) : decide (codeP g = 0) = okP g := by
  unfold codeP okP
  cases decide ((40 : Int) < (cntP g : Int)) <;> cases treeP g <;> cases dupP g <;> rfl
theorem validateP_c (g : Pat) (hg : PSm g) : PC zP 41 [Pt g] (I .i64 (codeP g)) := by
  have h1 := count_p g hg
  have h2 := validTreeP_c g
  cases hz : decide ((40 : Int) < (cntP g : Int))
  case true =>
    refine PCB.of_body Tryz.func41 rfl (by decide) Tryz.ntmps41 Tryz.results41 rfl rfl rfl ?_ rfl rfl
    repeat' (first | (simp only [go_sem, zA, zB, zC, zD, zE, zF, zG, reduceCtorEq, zH, zI, zJ, zK, zL, hz]; all_goals fail_if_success guard_target =ₛ False) | (with_reducible first | ((first | refine yA rfl ?_ | refine yS ?_ | refine yT (by kernel_rfl) ?_ | refine yC rfl ?_ | refine yE rfl ?_ | refine yG rfl ?_); intro K hK) | (apply hK; clear hK K) | refine yU ?_ | (refine yV (by with_unfolding_all rfl) ?_ ?_ <;> intro h <;> (try simp only [zM, zN] at h) <;> try exact absurd h (by decide)) | refine yW ?_ | refine yX ?_ | refine yY ?_ | refine ⟨_, h1, ?_⟩ | refine yZ mixed (by kernel_rfl) fun K hK => ?_ | refine ⟨(by kernel_rfl : depB _ _ _ = true), ?_⟩ | refine Or.inl ?_) | (clear hK K))
    all_goals (first | exact fun _ h => (by cases h) | (refine fin0 ?_; first | rfl | (simp only [codeP, hz, zb, cond_true, cond_false, decide_true, decide_false] <;> rfl)))
  cases ht : treeP g <;> rw [ht] at h2
  case false =>
    refine PCB.of_body Tryz.func41 rfl (by decide) Tryz.ntmps41 Tryz.results41 rfl rfl rfl ?_ rfl rfl
    repeat' (first | (simp only [go_sem, zA, zB, zC, zD, zE, zF, zG, reduceCtorEq, zH, zI, zJ, zK, zL, hz]; all_goals fail_if_success guard_target =ₛ False) | (with_reducible first | ((first | refine yA rfl ?_ | refine yS ?_ | refine yT (by kernel_rfl) ?_ | refine yC rfl ?_ | refine yE rfl ?_ | refine yG rfl ?_); intro K hK) | (apply hK; clear hK K) | refine yU ?_ | (refine yV (by with_unfolding_all rfl) ?_ ?_ <;> intro h <;> (try simp only [zM, zN] at h) <;> try exact absurd h (by decide)) | refine yW ?_ | refine yX ?_ | refine yY ?_ | refine ⟨_, h1, ?_⟩ | refine ⟨_, h2, ?_⟩ | refine yZ mixed (by kernel_rfl) fun K hK => ?_ | refine ⟨(by kernel_rfl : depB _ _ _ = true), ?_⟩ | refine Or.inl ?_) | (clear hK K))
    all_goals (first | exact fun _ h => (by cases h) | (refine fin0 ?_; first | rfl | (simp only [codeP, hz, ht, zb, cond_true, cond_false, decide_true, decide_false] <;> rfl)))
  have h3 := collectP_n g hg
  have h3c := collectP_c g hg
  have hl : (collP g).length ≤ 100000000 := Nat.le_trans (collP_len _) hg
  have h4 : PCBk zP 71 [.one (.own 11 (collP g).length)] 11 (.row 1 ((collP g).map Sx.encStr)) (.tup []) (.row 1 (((collP g).mergeSort fun x y => decide (x ≤ y)).map Sx.encStr)) :=
    PCBk.own1 11 (sortStr_c Go.Proofs.Tryz.sortS (collP g) (by omega))
  have h5 : PCBk zP 73 [.one (.own 11 (collP g).length)] 11 (.row 1 (((collP g).mergeSort fun x y => decide (x ≤ y)).map Sx.encStr)) (.one (.own 11 (sortedV (collP g)).length)) (.row 1 ((sortedV (collP g)).map Sx.encStr)) := by
    have h := compactStr_c Go.Proofs.Tryz.compS ((collP g).mergeSort fun x y => decide (x ≤ y))
    rw [compact_sort, List.length_mergeSort] at h
    exact PCBk.own2 11 h
  cases hd : dupP g
  all_goals
    have hd' := hd
    unfold dupP at hd'
    refine PCB.of_body Tryz.func41 rfl (by decide) Tryz.ntmps41 Tryz.results41 rfl rfl rfl ?_ rfl rfl
    repeat' (first | (simp only [go_sem, zA, zB, zC, zD, zE, zF, zG, reduceCtorEq, zH, zI, zJ, zK, zL, lB, hz, hd']; all_goals fail_if_success guard_target =ₛ False) | (with_reducible first | ((first | refine yA rfl ?_ | refine yS ?_ | refine yT (by kernel_rfl) ?_ | refine yC rfl ?_ | refine yE rfl ?_ | refine yG rfl ?_); intro K hK) | (apply hK; clear hK K) | refine yU ?_ | (refine yV (by with_unfolding_all rfl) ?_ ?_ <;> intro h <;> (try simp only [zM, zN] at h) <;> try exact absurd h (by decide)) | refine yW ?_ | refine yX ?_ | refine yY ?_ | refine ⟨_, h1, ?_⟩ | refine ⟨_, h2, ?_⟩ | refine Or.inr ⟨_, _, h3, ?_⟩ | refine ⟨_, h3c, ?_⟩) | (apply Or.inr; refine ⟨11, _, _, _, h4, rfl, ?_⟩; simp only [go_sem, zA, zB, zC, zD, zE, zF, zG, reduceCtorEq, zH, zI, zJ, zK, zL]) | (apply Or.inr; refine ⟨11, _, _, _, h5, rfl, ?_⟩; simp only [go_sem, zA, zB, zC, zD, zE, zF, zG, reduceCtorEq, zH, zI, zJ, zK, zL]) | (with_reducible first | (refine xA (id := 7) [1] [11] mixed (by kernel_rfl) fun K hK => ?_; simp only [Bx.outs, Bx.drop, cond_true, cond_false, Nat.reduceBEq, go_sem]) | refine yZ mixed (by kernel_rfl) fun K hK => ?_ | refine ⟨(by kernel_rfl : depB _ _ _ = true), ?_⟩ | refine Or.inl ?_) | (clear hK K))
    all_goals (first | exact fun _ h => (by cases h) | (refine fin0 ?_; first | rfl | (simp only [codeP, hz, ht, hd, zb, cond_true, cond_false, decide_true, decide_false] <;> rfl)))
theorem refValidateP_c (g : Pat) (hg : PSm g) : PC zP 44 [Pt g] (I .i64 (codeP g)) := by
  have h1 := patterns_c g hg
  have h2 := goodPattern_c g
  cases hz : decide ((40 : Int) < (cntP g : Int))
  case true =>
    refine PCB.of_body Tryz.func44 rfl (by decide) Tryz.ntmps44 Tryz.results44 rfl rfl rfl ?_ rfl rfl
    repeat' (first | (simp only [go_sem, zA, zB, zC, zD, zE, zF, zG, reduceCtorEq, zH, zI, zJ, zK, zL, hz]; all_goals fail_if_success guard_target =ₛ False) | (with_reducible first | ((first | refine yA rfl ?_ | refine yS ?_ | refine yT (by kernel_rfl) ?_); intro K hK) | (apply hK; clear hK K) | refine yU ?_ | (refine yV (by with_unfolding_all rfl) ?_ ?_ <;> intro h <;> (try simp only [zM, zN] at h) <;> try exact absurd h (by decide)) | refine yW ?_ | refine yX ?_ | refine yY ?_ | refine ⟨_, h1, ?_⟩ | refine Or.inl ?_) | (clear hK K))
    all_goals (first | exact fun _ h => (by cases h) | (refine fin0 ?_; first | rfl | (simp only [codeP, hz, zb, cond_true, cond_false, decide_true, decide_false] <;> rfl)))
  cases ht : treeP g <;> rw [ht] at h2
  case false =>
    refine PCB.of_body Tryz.func44 rfl (by decide) Tryz.ntmps44 Tryz.results44 rfl rfl rfl ?_ rfl rfl
    repeat' (first | (simp only [go_sem, zA, zB, zC, zD, zE, zF, zG, reduceCtorEq, zH, zI, zJ, zK, zL, hz]; all_goals fail_if_success guard_target =ₛ False) | (with_reducible first | ((first | refine yA rfl ?_ | refine yS ?_ | refine yT (by kernel_rfl) ?_); intro K hK) | (apply hK; clear hK K) | refine yU ?_ | (refine yV (by with_unfolding_all rfl) ?_ ?_ <;> intro h <;> (try simp only [zM, zN] at h) <;> try exact absurd h (by decide)) | refine yW ?_ | refine yX ?_ | refine yY ?_ | refine ⟨_, h1, ?_⟩ | refine ⟨_, h2, ?_⟩ | refine Or.inl ?_) | (clear hK K))
    all_goals (first | exact fun _ h => (by cases h) | (refine fin0 ?_; first | rfl | (simp only [codeP, hz, ht, zb, cond_true, cond_false, decide_true, decide_false] <;> rfl)))
  have h3 := occurrences_c g hg
  have hcl := collP_len g
  have h4 := sorted_c (collP g) (by simp only [decide_eq_false_iff_not] at hz; omega)
  cases hd : dupP g
  all_goals
    have hd' := hd
    unfold dupP at hd'
    refine PCB.of_body Tryz.func44 rfl (by decide) Tryz.ntmps44 Tryz.results44 rfl rfl rfl ?_ rfl rfl
    repeat' (first | (simp only [go_sem, zA, zB, zC, zD, zE, zF, zG, reduceCtorEq, zH, zI, zJ, zK, zL, lB, hz, hd']; all_goals fail_if_success guard_target =ₛ False) | (with_reducible first | ((first | refine yA rfl ?_ | refine yS ?_ | refine yT (by kernel_rfl) ?_); intro K hK) | (apply hK; clear hK K) | refine yU ?_ | (refine yV (by with_unfolding_all rfl) ?_ ?_ <;> intro h <;> (try simp only [zM, zN] at h) <;> try exact absurd h (by decide)) | refine yW ?_ | refine yX ?_ | refine yY ?_ | refine ⟨_, h1, ?_⟩ | refine ⟨_, h2, ?_⟩ | refine ⟨_, h3, ?_⟩ | refine ⟨_, h4, ?_⟩ | refine Or.inl ?_) | (clear hK K))
    all_goals (first | exact fun _ h => (by cases h) | (refine fin0 ?_; first | rfl | (simp only [codeP, hz, ht, hd, zb, cond_true, cond_false, decide_true, decide_false] <;> rfl)))
def anyP : Pat := ⟨1, 0, [], [], []⟩
theorem anyP_lit : Pt anyP = .st [.int .i64 1, .int .i64 0, .str [], .sl 5 [], .sl 2 []] := by rw [show Pt anyP = T.st (encP anyP) from rfl, encP_eq]; rfl
def soundP (g : Pat) : Pat := bif okP g then g else anyP
theorem soundP_c (g : Pat) (hg : PSm g) : PC zP 75 [Pt g] (Pt (soundP g)) := by
  have h1 := validateP_c g hg
  have hc := codeP_ok g
  unfold soundP
  refine PCB.of_body Tryz.func75 rfl (by decide) Tryz.ntmps75 Tryz.results75 rfl rfl rfl ?_ rfl rfl
  cases hz : okP g <;> rw [hz] at hc
  all_goals
    repeat' (first | (simp only [go_sem, zA, zB, zC, zD, zE, zF, zG, reduceCtorEq, zH, zI, zJ, zK, zL, hc]; all_goals fail_if_success guard_target =ₛ False) | (with_reducible first | ((first | refine yA rfl ?_ | refine yS ?_ | refine yT (by kernel_rfl) ?_); intro K hK) | (apply hK; clear hK K) | refine yU ?_ | (refine yV (by with_unfolding_all rfl) ?_ ?_ <;> intro h <;> (try simp only [zM, zN] at h) <;> try exact absurd h (by decide)) | refine yW ?_ | refine yX ?_ | refine yY ?_ | refine ⟨_, h1, ?_⟩ | refine Or.inl ?_) | (clear hK K))
  all_goals (first | exact fun _ h => (by cases h) | refine fin0 ?_)
  all_goals (simp only [cond_true, cond_false, anyP_lit]; try rfl)
theorem taken_c (g : Pat) (hg : PSm g) : PC zP 82 [Pt g] (Pt (soundP g)) := by
  have h1 := refValidateP_c g hg
  have hc := codeP_ok g
  unfold soundP
  refine PCB.of_body Tryz.func82 rfl (by decide) Tryz.ntmps82 Tryz.results82 rfl rfl rfl ?_ rfl rfl
  cases hz : okP g <;> rw [hz] at hc
  all_goals
    repeat' (first | (simp only [go_sem, zA, zB, zC, zD, zE, zF, zG, reduceCtorEq, zH, zI, zJ, zK, zL, hc]; all_goals fail_if_success guard_target =ₛ False) | (with_reducible first | ((first | refine yA rfl ?_ | refine yS ?_ | refine yT (by kernel_rfl) ?_); intro K hK) | (apply hK; clear hK K) | refine yU ?_ | (refine yV (by with_unfolding_all rfl) ?_ ?_ <;> intro h <;> (try simp only [zM, zN] at h) <;> try exact absurd h (by decide)) | refine yW ?_ | refine yX ?_ | refine yY ?_ | refine ⟨_, h1, ?_⟩ | refine Or.inl ?_) | (clear hK K))
  all_goals (first | exact fun _ h => (by cases h) | refine fin0 ?_)
  all_goals (simp only [cond_true, cond_false, anyP_lit]; try rfl)
theorem anyP_ok : okP anyP = true := by
  have h1 : cntP anyP = 1 := by rw [cntP_eq]; rfl
  have h2 : treeP anyP = true := by rw [treeP_eq]; rfl
  have h3 : collP anyP = [] := by rw [collP_eq]; rfl
  unfold okP dupP; rw [h1, h2, h3]; rfl
theorem soundP_ok (g : Pat) : okP (soundP g) = true := by
  unfold soundP
  cases hz : okP g
  · exact anyP_ok
  · exact hz
theorem okP_cnt {g : Pat} (h : okP g = true) : cntP g ≤ 40 := by
  unfold okP at h; simp only [Bool.and_eq_true, Bool.not_eq_true', decide_eq_false_iff_not] at h; omega
theorem okP_tree {g : Pat} (h : okP g = true) : treeP g = true := by
  unfold okP at h; simp only [Bool.and_eq_true] at h; exact h.2.1
theorem okP_dup {g : Pat} (h : okP g = true) : (collP g).length ≤ (sortedV (collP g)).length := by
  unfold okP dupP at h; simp only [Bool.and_eq_true, Bool.not_eq_true', decide_eq_false_iff_not] at h; omega
theorem soundP_sm (g : Pat) : PSm (soundP g) := by have := okP_cnt (soundP_ok g); unfold PSm; omega
theorem compact_full (l : List (List UInt8)) (h : l.length ≤ (Lib.compact l).length) : Lib.compact l = l := by
  unfold Lib.compact Lib.compactUpTo at *
  rw [lB] at h
  have hf : (List.range l.length).filter (Lib.keeps l.toArray) = List.range l.length :=
    List.Sublist.eq_of_length_le List.filter_sublist (by rw [List.length_range]; exact h)
  rw [hf]
  apply List.ext_getElem
  · simp
  · intro i h1 h2
    simp [h2]
theorem sorted_nodup (l : List (List UInt8)) (h : l.length ≤ (sortedV l).length) : (l.mergeSort fun x y => decide (x ≤ y)) = sortedV l := by
  rw [← compact_sort] at h ⊢
  exact (compact_full _ (by rw [List.length_mergeSort]; exact h)).symm
def namesP (g : Pat) : List (List UInt8) := sortedV (collP (soundP g))
theorem NamesP_c (g : Pat) (hg : PSm g) : PC zP 42 [Pt g] (SsP (namesP g)) := by
  have h1 := soundP_c g hg
  have hs := soundP_sm g
  have h2 := collectP_n (soundP g) hs
  have hl : (collP (soundP g)).length ≤ 100000000 := Nat.le_trans (collP_len _) hs
  have h3 : PCBk zP 71 [.one (.own 6 (collP (soundP g)).length)] 6 (.row 1 ((collP (soundP g)).map Sx.encStr)) (.tup []) (.row 1 ((namesP g).map Sx.encStr)) := by
    have h := PCBk.own1 6 (sortStr_c Go.Proofs.Tryz.sortS (collP (soundP g)) (by omega))
    rw [sorted_nodup _ (okP_dup (soundP_ok g))] at h
    exact h
  have hlen : (collP (soundP g)).length = (namesP g).length := by
    have h := congrArg List.length (sorted_nodup _ (okP_dup (soundP_ok g)))
    rwa [List.length_mergeSort] at h
  rw [hlen] at h2 h3
  refine PCB.of_body Tryz.func42 rfl (by decide) Tryz.ntmps42 Tryz.results42 rfl rfl rfl ?_ rfl rfl
  refine AWP.ghQ ?_
  repeat' (first | (simp only [go_sem, zA, zB, zC, zD, zE, zF, zG, reduceCtorEq, zH, zI, zJ, zK, zL, lB]; all_goals fail_if_success guard_target =ₛ False) | (with_reducible first | ((first | refine yA rfl ?_ | refine yS ?_ | refine yT (by kernel_rfl) ?_); intro K hK) | (apply hK; clear hK K) | refine yU ?_ | (refine yV (by with_unfolding_all rfl) ?_ ?_ <;> intro h <;> (try simp only [zM, zN] at h) <;> try exact absurd h (by decide)) | refine yW ?_ | refine yX ?_ | refine yY ?_ | refine ⟨_, h1, ?_⟩ | refine Or.inr ⟨_, _, h2, ?_⟩) | (apply Or.inr; refine ⟨6, _, _, _, h3, rfl, ?_⟩; simp only [go_sem, zA, zB, zC, zD, zE, zF, zG, reduceCtorEq, zH, zI, zJ, zK, zL]) | (with_reducible first | refine Or.inl ?_) | (clear hK K))
  refine ⟨_, Gh.freeze 6 rfl rfl (by simp only [go_sem, zA, zB, zC, zD, zE, zF, zG, reduceCtorEq, zH, zI, zJ, zK, zL, lB]) (by simp only [go_sem, zA, zB, zC, zD, zE, zF, zG, reduceCtorEq, zH, zI, zJ, zK, zL, lB]), ?_⟩
  simp only [go_sem, zA, zB, zC, zD, zE, zF, zG, reduceCtorEq, zH, zI, zJ, zK, zL, lB]
  all_goals (first | exact fun _ h => (by cases h) | refine fin0 ?_)
@[go_sem] theorem mp92 : mpT zP 92 = some ([.int .i64 0, .int .i64 0, .str [], .nil 7, .nil 2, .nil 9, .nil 1], true) := by kernel_rfl
abbrev ME := List (List UInt8 × Val)
def encM (m : ME) : List (List UInt8 × List C) := m.map fun p => (p.1, encVal p.2)
def putV (k : List UInt8) (v : Val) : ME → ME
  | [] => [(k, v)]
  | p :: m => bif decide (p.1 = k) then (k, v) :: m else p :: putV k v m
def getV (k : List UInt8) : ME → Option Val
  | [] => none
  | p :: m => bif decide (p.1 = k) then some p.2 else getV k m
theorem putA_enc (k : List UInt8) (v : Val) : ∀ m : ME, putA k (encVal v) (encM m) = encM (putV k v m)
  | [] => rfl
  | p :: m => by
    have ih := putA_enc k v m
    unfold encM at ih ⊢
    simp only [lE, putA, putV]
    cases decide (p.1 = k)
    · simp only [cond_false, lE, ih]
    · simp only [cond_true, lE]
theorem assoc_enc (k : List UInt8) : ∀ m : ME, assoc k (encM m) = (getV k m).map encVal
  | [] => rfl
  | p :: m => by
    have ih := assoc_enc k m
    unfold encM at ih ⊢
    simp only [lE, assoc, getV]
    cases decide (p.1 = k)
    · simp only [cond_false, ih]
    · simp only [cond_true, Option.map_some]
abbrev MR := Bool × ME
def valAt (v : Val) (k : KeyD) : Option Val :=
  bif decide (findI (fun x => sameK k x) 0 v.keys < 0) then none else v.kids[(findI (fun x => sameK k x) 0 v.keys).toNat]?
mutual
def matchP : Pat → Val → ME → MR
  | ⟨kind, num, text, kids, keys⟩, v, m =>
    bif decide (kind = 1) then (true, m) else
    bif decide (kind = 2) then (true, putV text v m) else
    bif decide (kind = 10) then matchH kids v (putV text v m) else
    bif decide (kind = 3) then (decide (v.kind = 1) && decide (v.num = num), m) else
    bif decide (kind = 4) then (decide (v.kind = 2) && decide (v.text = text), m) else
    bif decide (kind = 5) then (decide (v.kind = 3) && decide (v.text = text), m) else
    bif decide (kind = 6) then (decide (v.kind = 5), m) else
    bif decide (kind = 7) then (bif decide (v.kind = 6) && decide (kids.length = v.kids.length) then matchL kids v.kids m else (false, m)) else
    bif decide (kind = 8) then (bif decide (v.kind = 7) && decide (kids.length = v.kids.length) then matchL kids v.kids m else (false, m)) else
    bif decide (v.kind = 8) then matchM keys kids v m else (false, m)
def matchH : List Pat → Val → ME → MR
  | [], _, m => (false, m)
  | g :: _, v, m => matchP g v m
def matchL : List Pat → List Val → ME → MR
  | g :: l, v :: vs, m => bif (matchP g v m).1 then matchL l vs (matchP g v m).2 else (false, (matchP g v m).2)
  | _, _, m => (true, m)
def matchM : List KeyD → List Pat → Val → ME → MR
  | k :: ks, g :: l, v, m => match valAt v k with
    | some w => bif (matchP g w m).1 then matchM ks l v (matchP g w m).2 else (false, (matchP g w m).2)
    | none => (false, m)
  | _, _, _, m => (true, m)
end
def MatchC (g : Pat) (v : Val) : Prop := ∀ m : ME, PCB zP 76 [Pt g, Vt v, .one (.mp pin)] [(pin, .mp true (encM m))] (Bo (matchP g v m).1) [(pin, .mp true (encM (matchP g v m).2))]
theorem matchL_drop {l : List Pat} {vs : List Val} {k : Nat} {g : Pat} {v : Val} {m : ME} (hg : l[k]? = some g) (hv : vs[k]? = some v) :
    matchL (l.drop k) (vs.drop k) m = bif (matchP g v m).1 then matchL (l.drop (k + 1)) (vs.drop (k + 1)) (matchP g v m).2 else (false, (matchP g v m).2) := by
  obtain ⟨h1, h2⟩ := List.getElem?_eq_some_iff.1 hg
  obtain ⟨h3, h4⟩ := List.getElem?_eq_some_iff.1 hv
  rw [List.drop_eq_getElem_cons h1, List.drop_eq_getElem_cons h3, h2, h4, matchL]
theorem matchL_nil (vs : List Val) (m : ME) : matchL [] vs m = (true, m) := by cases vs <;> rfl
theorem matchAll_c (l : List Pat) (vs : List Val) (m : ME) (hl : ∀ g ∈ l, ∀ v ∈ vs, MatchC g v) :
    PCB zP 105 [.one (.dat (.sl 5 (l.map encP))), .one (.dat (.sl 7 (vs.map encVal))), .one (.mp pin)] [(pin, .mp true (encM m))]
      (Bo (bif decide (l.length = vs.length) then matchL l vs m else (false, m)).1) [(pin, .mp true (encM (bif decide (l.length = vs.length) then matchL l vs m else (false, m)).2))] := by
  by_cases hlen : l.length = vs.length
  case neg =>
    have hd : decide ((l.length : Int) = (vs.length : Int)) = false := by simp only [decide_eq_false_iff_not]; omega
    rw [decide_eq_false hlen]
    refine PCB.of_body Tryz.func105 rfl (by decide) Tryz.ntmps105 Tryz.results105 rfl rfl rfl ?_ rfl rfl
    repeat' (first | (simp only [go_sem, zA, zB, zC, zD, zE, zF, zG, reduceCtorEq, zH, zI, zJ, zK, zL, pin, lB, hd]; all_goals fail_if_success guard_target =ₛ False) | (with_reducible first | ((first | refine yA rfl ?_ | refine yS ?_ | refine yT (by kernel_rfl) ?_ | refine yC rfl ?_ | refine yE rfl ?_ | refine yG rfl ?_); intro K hK) | (apply hK; clear hK K) | refine yU ?_ | (refine yV (by with_unfolding_all rfl) ?_ ?_ <;> intro h <;> (try simp only [zM, zN] at h) <;> try exact absurd h (by decide)) | refine yW ?_ | refine yX ?_ | refine yY ?_ | refine yZ mixed (by kernel_rfl) fun K hK => ?_ | refine ⟨(by kernel_rfl : depB _ _ _ = true), ?_⟩ | refine Or.inl ?_) | (clear hK K))
    all_goals ((try refine ⟨by first | trivial | rfl, ?_⟩); intro q hq; simp only [lN] at hq; subst hq; simp)
  have hd : decide ((l.length : Int) = (vs.length : Int)) = true := by simp only [decide_eq_true_eq]; omega
  rw [decide_eq_true hlen, cond_true]
  refine PCB.of_body Tryz.func105 rfl (by decide) Tryz.ntmps105 Tryz.results105 rfl rfl rfl ?_ rfl rfl
  repeat' (first | (simp only [go_sem, zA, zB, zC, zD, zE, zF, zG, reduceCtorEq, zH, zI, zJ, zK, zL, pin, lB, hd]; all_goals fail_if_success guard_target =ₛ False) | (with_reducible first | ((first | refine yA rfl ?_ | refine yS ?_ | refine yT (by kernel_rfl) ?_ | refine yC rfl ?_ | refine yE rfl ?_ | refine yG rfl ?_); intro K hK) | (apply hK; clear hK K) | refine yU ?_ | (refine yV (by with_unfolding_all rfl) ?_ ?_ <;> intro h <;> (try simp only [zM, zN] at h) <;> try exact absurd h (by decide)) | refine yW ?_ | refine yX ?_ | refine yY ?_ | refine yZ mixed (by kernel_rfl) fun K hK => ?_ | refine ⟨(by kernel_rfl : depB _ _ _ = true), ?_⟩ | refine Or.inl ?_) | (clear hK K))
  refine AWP.len 14 rfl fun hlen0 => ?_
  (try rw [lB] at hlen0)
  refine xC (S := ME) (l) encP (fun k s => (16, I .i64 (k : Nat)) :: []) (fun k s => [(1000000, .mp true (encM s))]) [1, 2, 14, 15] [] (fun k s => matchL l vs m = matchL (l.drop k) (vs.drop k) s) (m) (by simp only [go_sem, zA, zB, zC, zD, zE, zF, zG, reduceCtorEq, zH, zI, zJ, zK, zL, pin]; exact (by refine xG [] ?_ ?_ rfl rfl rfl <;> repeat first | exact trivial | refine ⟨rfl, ?_⟩ | refine ⟨by (simp only [go_sem, zA, zB, zC, zD, zE, zF, zG, reduceCtorEq, zH, zI, zJ, zK, zL, lA, lB, lC, lD, Nat.zero_add]) <;> rfl, ?_⟩)) ?_ ?_ ?_
  · rfl
  · intro k s x hlt hx hx' hb hok
    simp only [go_sem, zA, zB, zC, zD, zE, zF, zG, reduceCtorEq, zH, zI, zJ, zK, zL]
    obtain ⟨v, hv, hv', _, _⟩ := at_lt (enc := encVal) (show k < vs.length by omega)
    have hix := hl x (lP hx) v (lP hv) s
    rw [matchL_drop hx hv] at hok
    cases hz : (matchP x v s).1 <;> rw [hz] at hok hix <;> simp only [cond_true, cond_false] at hok
    all_goals
      repeat' (first | (simp only [go_sem, zA, zB, zC, zD, zE, zF, zG, reduceCtorEq, zH, zI, zJ, zK, zL, pin, lB, hb, hz]; all_goals fail_if_success guard_target =ₛ False) | (with_reducible first | ((first | refine yA rfl ?_ | refine yS ?_ | refine yT (by kernel_rfl) ?_ | refine yC rfl ?_ | refine yE rfl ?_ | refine yG rfl ?_); intro K hK) | (apply hK; clear hK K) | refine yU ?_ | (refine yV (by with_unfolding_all rfl) ?_ ?_ <;> intro h <;> (try simp only [zM, zN] at h) <;> try exact absurd h (by decide)) | refine yW ?_ | refine yX ?_ | refine yY ?_ | refine ⟨by omega, encP x, hx', ?_⟩ | refine ⟨by omega, encVal v, hv', ?_⟩) | (refine ⟨1000000, _, _, _, PCBk.mk 1000000 hix, rfl, ?_⟩) | (with_reducible first | (refine xA (id := 6) [6] [1000000] mixed (by kernel_rfl) fun K hK => ?_; simp only [Bx.outs, Bx.drop, cond_true, cond_false, Nat.reduceBEq, go_sem]) | refine yZ mixed (by kernel_rfl) fun K hK => ?_ | refine ⟨(by kernel_rfl : depB _ _ _ = true), ?_⟩ | refine Or.inl ?_) | (clear hK K))
    ·
      all_goals (rw [hok]; (try refine ⟨by first | trivial | rfl, ?_⟩); intro q hq; simp only [lN] at hq; subst hq; simp)
    ·
      all_goals (rw [wrap_succ hlt hlen0])
      all_goals (refine ⟨(matchP x v s).2, ?_, (by refine xG [] ?_ ?_ rfl rfl rfl <;> repeat first | exact trivial | refine ⟨rfl, ?_⟩ | refine ⟨by (simp only [go_sem, zA, zB, zC, zD, zE, zF, zG, reduceCtorEq, zH, zI, zJ, zK, zL, lA, lB, lC, lD, Nat.zero_add]) <;> rfl, ?_⟩)⟩)
      all_goals exact hok
  · intro s hb hok
    simp only [go_sem, zA, zB, zC, zD, zE, zF, zG, reduceCtorEq, zH, zI, zJ, zK, zL]
    rw [List.drop_length, matchL_nil] at hok
    repeat' (first | (simp only [go_sem, zA, zB, zC, zD, zE, zF, zG, reduceCtorEq, zH, zI, zJ, zK, zL, pin, lB, hb]; all_goals fail_if_success guard_target =ₛ False) | (with_reducible first | ((first | refine yA rfl ?_ | refine yS ?_ | refine yT (by kernel_rfl) ?_ | refine yC rfl ?_ | refine yE rfl ?_ | refine yG rfl ?_); intro K hK) | (apply hK; clear hK K) | refine yU ?_ | (refine yV (by with_unfolding_all rfl) ?_ ?_ <;> intro h <;> (try simp only [zM, zN] at h) <;> try exact absurd h (by decide)) | refine yW ?_ | refine yX ?_ | refine yY ?_ | refine yZ mixed (by kernel_rfl) fun K hK => ?_ | refine ⟨(by kernel_rfl : depB _ _ _ = true), ?_⟩ | refine Or.inl ?_) | (clear hK K))
    all_goals (rw [hok]; (try refine ⟨by first | trivial | rfl, ?_⟩); intro q hq; simp only [lN] at hq; subst hq; simp)
theorem matchM_drop {ks : List KeyD} {l : List Pat} {i : Nat} {k : KeyD} {g : Pat} {v : Val} {m : ME} (hk : ks[i]? = some k) (hg : l[i]? = some g) :
    matchM (ks.drop i) (l.drop i) v m = match valAt v k with
      | some w => bif (matchP g w m).1 then matchM (ks.drop (i + 1)) (l.drop (i + 1)) v (matchP g w m).2 else (false, (matchP g w m).2)
      | none => (false, m) := by
  obtain ⟨h1, h2⟩ := List.getElem?_eq_some_iff.1 hk
  obtain ⟨h3, h4⟩ := List.getElem?_eq_some_iff.1 hg
  rw [List.drop_eq_getElem_cons h1, List.drop_eq_getElem_cons h3, h2, h4, matchM]
  all_goals (cases valAt v k <;> rfl)
theorem matchM_nil (l : List Pat) (v : Val) (m : ME) : matchM [] l v m = (true, m) := by cases l <;> rfl
theorem matchMap_c (g : Pat) (v : Val) (m : ME) (hgk : g.keys.length ≤ g.kids.length) (hvk : v.keys.length = v.kids.length) (hl : ∀ k ∈ g.kids, ∀ w ∈ v.kids, MatchC k w) :
    PCB zP 106 [Pt g, Vt v, .one (.mp pin)] [(pin, .mp true (encM m))] (Bo (matchM g.keys g.kids v m).1) [(pin, .mp true (encM (matchM g.keys g.kids v m).2))] := by
  refine PCB.of_body Tryz.func106 rfl (by decide) Tryz.ntmps106 Tryz.results106 rfl rfl rfl ?_ rfl rfl
  repeat' (first | (simp only [go_sem, zA, zB, zC, zD, zE, zF, zG, reduceCtorEq, zH, zI, zJ, zK, zL, pin, encP_eq g, encVal_eq v, lB]; all_goals fail_if_success guard_target =ₛ False) | (with_reducible first | ((first | refine yA rfl ?_ | refine yB rfl ?_ | refine yS ?_ | refine yT (by kernel_rfl) ?_ | refine yC rfl ?_ | refine yD rfl ?_ | refine yE rfl ?_ | refine yF rfl ?_ | refine yG rfl ?_ | refine yH rfl ?_); intro K hK) | (apply hK; clear hK K) | refine yU ?_ | (refine yV (by with_unfolding_all rfl) ?_ ?_ <;> intro h <;> (try simp only [zM, zN] at h) <;> try exact absurd h (by decide)) | refine yW ?_ | refine yX ?_ | refine yY ?_ | (refine ⟨fun h => ?_, fun h => ?_⟩ <;> (try simp only [zM, zN] at h) <;> try simp only [h]) | refine yZ mixed (by kernel_rfl) fun K hK => ?_ | refine ⟨(by kernel_rfl : depB _ _ _ = true), ?_⟩ | refine Or.inl ?_) | (clear hK K))
  refine AWP.len 11 rfl fun hlen0 => ?_
  (try rw [lB] at hlen0)
  refine xC (S := ME) (g.keys) encKey (fun k s => (13, I .i64 (k : Nat)) :: []) (fun k s => [(1000000, .mp true (encM s))]) [2, 3, 4, 11, 12] [3, 4] (fun k s => matchM g.keys g.kids v m = matchM (g.keys.drop k) (g.kids.drop k) v s) (m) (by simp only [go_sem, zA, zB, zC, zD, zE, zF, zG, reduceCtorEq, zH, zI, zJ, zK, zL, pin, encP_eq g, encVal_eq v]; exact (by refine xG [] ?_ ?_ rfl rfl rfl <;> repeat first | exact trivial | refine ⟨rfl, ?_⟩ | refine ⟨by (simp only [go_sem, zA, zB, zC, zD, zE, zF, zG, reduceCtorEq, zH, zI, zJ, zK, zL, lA, lB, lC, lD, Nat.zero_add]) <;> rfl, ?_⟩)) ?_ ?_ ?_
  · rfl
  · intro k s x hlt hx hx' hb hok
    simp only [go_sem, zA, zB, zC, zD, zE, zF, zG, reduceCtorEq, zH, zI, zJ, zK, zL]
    obtain ⟨gk, hg1, hg2, _, _⟩ := at_lt (enc := encP) (show k < g.kids.length by omega)
    have hix := indexKey_c v.keys x
    rw [matchM_drop hx hg1] at hok
    rcases find_cases (fun y => sameK x y) v.keys 0 with h | ⟨n, h, _, h2⟩
    · have hva : valAt v x = none := by unfold valAt; rw [h]; rfl
      rw [hva] at hok
      rw [h] at hix
      repeat' (first | (simp only [go_sem, zA, zB, zC, zD, zE, zF, zG, reduceCtorEq, zH, zI, zJ, zK, zL, pin, encP_eq g, encVal_eq v, lB, hb]; all_goals fail_if_success guard_target =ₛ False) | (with_reducible first | ((first | refine yA rfl ?_ | refine yB rfl ?_ | refine yS ?_ | refine yT (by kernel_rfl) ?_ | refine yC rfl ?_ | refine yD rfl ?_ | refine yE rfl ?_ | refine yF rfl ?_ | refine yG rfl ?_ | refine yH rfl ?_); intro K hK) | (apply hK; clear hK K) | refine yU ?_ | (refine yV (by with_unfolding_all rfl) ?_ ?_ <;> intro h <;> (try simp only [zM, zN] at h) <;> try exact absurd h (by decide)) | refine yW ?_ | refine yX ?_ | refine yY ?_ | (refine ⟨fun h => ?_, fun h => ?_⟩ <;> (try simp only [zM, zN] at h) <;> try simp only [h]) | refine ⟨_, hix, ?_⟩ | refine ⟨by omega, encKey x, hx', ?_⟩ | refine yZ mixed (by kernel_rfl) fun K hK => ?_ | refine ⟨(by kernel_rfl : depB _ _ _ = true), ?_⟩ | refine Or.inl ?_) | (clear hK K))
      all_goals (rw [hok]; (try refine ⟨by first | trivial | rfl, ?_⟩); intro q hq; simp only [lN] at hq; subst hq; simp)
    · obtain ⟨w, hw, hw', _, _⟩ := at_lt (enc := encVal) (show n < v.kids.length by omega)
      have hneg : decide ((n : Int) < 0) = false := by simp only [decide_eq_false_iff_not]; omega
      have hva : valAt v x = some w := by unfold valAt; rw [h, hneg, cond_false, Int.toNat_natCast, hw]
      have hmx := hl gk (lP hg1) w (lP hw) s
      rw [hva] at hok
      rw [h] at hix
      simp only at hok
      cases hz : (matchP gk w s).1 <;> rw [hz] at hok hmx <;> simp only [cond_true, cond_false] at hok
      all_goals
        repeat' (first | (simp only [go_sem, zA, zB, zC, zD, zE, zF, zG, reduceCtorEq, zH, zI, zJ, zK, zL, pin, encP_eq g, encVal_eq v, lB, hb, hz, hneg]; all_goals fail_if_success guard_target =ₛ False) | (with_reducible first | ((first | refine yA rfl ?_ | refine yB rfl ?_ | refine yS ?_ | refine yT (by kernel_rfl) ?_ | refine yC rfl ?_ | refine yD rfl ?_ | refine yE rfl ?_ | refine yF rfl ?_ | refine yG rfl ?_ | refine yH rfl ?_); intro K hK) | (apply hK; clear hK K) | refine yU ?_ | (refine yV (by with_unfolding_all rfl) ?_ ?_ <;> intro h <;> (try simp only [zM, zN] at h) <;> try exact absurd h (by decide)) | refine yW ?_ | refine yX ?_ | refine yY ?_ | (refine ⟨fun h => ?_, fun h => ?_⟩ <;> (try simp only [zM, zN] at h) <;> try simp only [h]) | refine ⟨_, hix, ?_⟩ | refine ⟨by omega, encKey x, hx', ?_⟩ | refine ⟨by omega, encP gk, hg2, ?_⟩ | refine ⟨by omega, encVal w, hw', ?_⟩) | (refine ⟨1000000, _, _, _, PCBk.mk 1000000 hmx, rfl, ?_⟩) | (with_reducible first | (refine xA (id := 5) [14] [1000000] mixed (by kernel_rfl) fun K hK => ?_; simp only [Bx.outs, Bx.drop, cond_true, cond_false, Nat.reduceBEq, go_sem]) | refine yZ mixed (by kernel_rfl) fun K hK => ?_ | refine ⟨(by kernel_rfl : depB _ _ _ = true), ?_⟩ | refine Or.inl ?_) | (clear hK K))
      ·
        all_goals (rw [hok]; (try refine ⟨by first | trivial | rfl, ?_⟩); intro q hq; simp only [lN] at hq; subst hq; simp)
      ·
        all_goals (rw [wrap_succ hlt hlen0])
        all_goals (refine ⟨(matchP gk w s).2, ?_, (by refine xG [] ?_ ?_ rfl rfl rfl <;> repeat first | exact trivial | refine ⟨rfl, ?_⟩ | refine ⟨by (simp only [go_sem, zA, zB, zC, zD, zE, zF, zG, reduceCtorEq, zH, zI, zJ, zK, zL, lA, lB, lC, lD, Nat.zero_add]) <;> rfl, ?_⟩)⟩)
        all_goals exact hok
  · intro s hb hok
    simp only [go_sem, zA, zB, zC, zD, zE, zF, zG, reduceCtorEq, zH, zI, zJ, zK, zL]
    rw [List.drop_length, matchM_nil] at hok
    repeat' (first | (simp only [go_sem, zA, zB, zC, zD, zE, zF, zG, reduceCtorEq, zH, zI, zJ, zK, zL, pin, encP_eq g, encVal_eq v, lB, hb]; all_goals fail_if_success guard_target =ₛ False) | (with_reducible first | ((first | refine yA rfl ?_ | refine yB rfl ?_ | refine yS ?_ | refine yT (by kernel_rfl) ?_ | refine yC rfl ?_ | refine yD rfl ?_ | refine yE rfl ?_ | refine yF rfl ?_ | refine yG rfl ?_ | refine yH rfl ?_); intro K hK) | (apply hK; clear hK K) | refine yU ?_ | (refine yV (by with_unfolding_all rfl) ?_ ?_ <;> intro h <;> (try simp only [zM, zN] at h) <;> try exact absurd h (by decide)) | refine yW ?_ | refine yX ?_ | refine yY ?_ | (refine ⟨fun h => ?_, fun h => ?_⟩ <;> (try simp only [zM, zN] at h) <;> try simp only [h]) | refine yZ mixed (by kernel_rfl) fun K hK => ?_ | refine ⟨(by kernel_rfl : depB _ _ _ = true), ?_⟩ | refine Or.inl ?_) | (clear hK K))
    all_goals (rw [hok]; (try refine ⟨by first | trivial | rfl, ?_⟩); intro q hq; simp only [lN] at hq; subst hq; simp)
theorem matchP_eq (g : Pat) (v : Val) (m : ME) : matchP g v m = bif decide (g.kind = 1) then (true, m) else
    bif decide (g.kind = 2) then (true, putV g.text v m) else
    bif decide (g.kind = 10) then matchH g.kids v (putV g.text v m) else
    bif decide (g.kind = 3) then (decide (v.kind = 1) && decide (v.num = g.num), m) else
    bif decide (g.kind = 4) then (decide (v.kind = 2) && decide (v.text = g.text), m) else
    bif decide (g.kind = 5) then (decide (v.kind = 3) && decide (v.text = g.text), m) else
    bif decide (g.kind = 6) then (decide (v.kind = 5), m) else
    bif decide (g.kind = 7) then (bif decide (v.kind = 6) && decide (g.kids.length = v.kids.length) then matchL g.kids v.kids m else (false, m)) else
    bif decide (g.kind = 8) then (bif decide (v.kind = 7) && decide (g.kids.length = v.kids.length) then matchL g.kids v.kids m else (false, m)) else
    bif decide (v.kind = 8) then matchM g.keys g.kids v m else (false, m) := by cases g; rw [matchP]
theorem vP_of {g : Pat} (h : treeP g = true) : vP g = true := by rw [treeP_eq, Bool.and_eq_true] at h; exact h.1
theorem treeP_kid {g k : Pat} (h : treeP g = true) (hk : k ∈ g.kids) : treeP k = true := by
  rw [treeP_eq, Bool.and_eq_true, List.all_eq_true] at h
  exact h.2 k hk
theorem treeB_kid {v k : Val} (h : treeB v = true) (hk : k ∈ v.kids) : treeB k = true := by
  rw [treeB_kids, Bool.and_eq_true, Bool.and_eq_true, List.all_eq_true] at h
  exact h.2.1 k hk
theorem treeB_map {v : Val} (h : treeB v = true) (hk : v.kind = 8) : v.keys.length = v.kids.length := by
  rw [treeB_kids, Bool.and_eq_true] at h
  have h1 := h.1
  unfold nodeB at h1
  simp only [Bool.and_eq_true] at h1
  have h2 := h1.2.2.2
  unfold bodyB at h2
  simp only [hk, Int.reduceEq, decide_true, decide_false, cond_true, cond_false] at h2
  unfold mapB at h2
  simp only [Bool.and_eq_true, decide_eq_true_eq] at h2
  omega
theorem kindsP {g : Pat} (h : vP g = true) : g.kind = 1 ∨ g.kind = 2 ∨ g.kind = 3 ∨ g.kind = 4 ∨ g.kind = 5 ∨ g.kind = 6 ∨ g.kind = 7 ∨ g.kind = 8 ∨ (g.kind = 9 ∧ g.keys.length = g.kids.length) ∨ (g.kind = 10 ∧ ∃ k, g.kids = [k]) := by
  have hb : bodyP g = true := by unfold vP at h; simp only [Bool.and_eq_true] at h; exact h.2
  by_cases h9 : g.kind = 9
  · have hm : mapP g = true := by
      unfold bodyP at hb
      simp only [h9, Int.reduceEq, decide_true, decide_false, Bool.or_false, cond_true, cond_false] at hb
      exact hb
    unfold mapP at hm
    simp only [Bool.and_eq_true, Bool.not_eq_true', Bool.or_eq_false_iff, Bool.not_eq_false', decide_eq_true_eq] at hm
    exact .inr (.inr (.inr (.inr (.inr (.inr (.inr (.inr (.inl ⟨h9, by omega⟩))))))))
  by_cases h10 : g.kind = 10
  · have hm : decide ((g.kids.length : Int) = 1) = true := by
      unfold bodyP at hb
      simp only [h10, Int.reduceEq, decide_true, decide_false, Bool.or_false, cond_true, cond_false, Bool.and_eq_true] at hb
      exact hb.1
    simp only [decide_eq_true_eq] at hm
    obtain ⟨k, hk⟩ := List.length_eq_one_iff.1 (show g.kids.length = 1 by omega)
    exact .inr (.inr (.inr (.inr (.inr (.inr (.inr (.inr (.inr ⟨h10, k, hk⟩))))))))
  by_cases hx : g.kind = 1 ∨ g.kind = 2 ∨ g.kind = 3 ∨ g.kind = 4 ∨ g.kind = 5 ∨ g.kind = 6 ∨ g.kind = 7 ∨ g.kind = 8
  · rcases hx with h | h | h | h | h | h | h | h <;> simp [h]
  · exfalso
    have e1 : decide (g.kind = 1) = false := by simp only [decide_eq_false_iff_not]; omega
    have e2 : decide (g.kind = 2) = false := by simp only [decide_eq_false_iff_not]; omega
    have e3 : decide (g.kind = 3) = false := by simp only [decide_eq_false_iff_not]; omega
    have e4 : decide (g.kind = 4) = false := by simp only [decide_eq_false_iff_not]; omega
    have e5 : decide (g.kind = 5) = false := by simp only [decide_eq_false_iff_not]; omega
    have e6 : decide (g.kind = 6) = false := by simp only [decide_eq_false_iff_not]; omega
    have e7 : decide (g.kind = 7) = false := by simp only [decide_eq_false_iff_not]; omega
    have e8 : decide (g.kind = 8) = false := by simp only [decide_eq_false_iff_not]; omega
    have e9 : decide (g.kind = 9) = false := by simp only [decide_eq_false_iff_not]; omega
    have e10 : decide (g.kind = 10) = false := by simp only [decide_eq_false_iff_not]; omega
    unfold bodyP at hb
    rw [e1, e2, e3, e4, e5, e6, e7, e8, e9, e10] at hb
    cases hb
theorem match_c (g : Pat) (v : Val) (hg : treeP g = true) (hv : treeB v = true) : MatchC g v := by
  have ih : ∀ k ∈ g.kids, ∀ w : Val, treeB w = true → MatchC k w := fun k hk w hw => match_c k w (treeP_kid hg hk) hw
  intro m
  rcases kindsP (vP_of hg) with hk | hk | hk | hk | hk | hk | hk | hk | ⟨hk, hkk⟩ | ⟨hk, k0, hk0⟩
  ·
    refine PCB.of_body Tryz.func76 rfl (by decide) Tryz.ntmps76 Tryz.results76 rfl rfl rfl ?_ rfl rfl
    repeat' (first | (simp only [go_sem, zA, zB, zC, zD, zE, zF, zG, reduceCtorEq, zH, zI, zJ, zK, zL, pin, encP_eq g, encVal_eq v, hk, lB]; all_goals fail_if_success guard_target =ₛ False) | (with_reducible first | ((first | refine yA rfl ?_ | refine yB rfl ?_ | refine yS ?_ | refine yT (by kernel_rfl) ?_ | refine yC rfl ?_ | refine yD rfl ?_ | refine yE rfl ?_ | refine yF rfl ?_ | refine yG rfl ?_ | refine yH rfl ?_); intro K hK) | (apply hK; clear hK K) | refine yU ?_ | (refine yV (by with_unfolding_all rfl) ?_ ?_ <;> intro h <;> (try simp only [zM, zN] at h) <;> try exact absurd h (by decide)) | refine yW ?_ | refine yX ?_ | refine yY ?_ | (refine ⟨fun h => ?_, fun h => ?_⟩ <;> (try simp only [zM, zN] at h) <;> try simp only [h]) | refine yZ mixed (by kernel_rfl) fun K hK => ?_ | refine ⟨(by kernel_rfl : depB _ _ _ = true), ?_⟩ | refine Or.inl ?_) | (clear hK K))
    all_goals (rw [matchP_eq, hk]; simp only [Int.reduceEq, zb, decide_true, decide_false, cond_true, cond_false, *]; (try refine ⟨by first | trivial | rfl, ?_⟩); intro q hq; simp only [lN] at hq; subst hq; simp)
  ·
    refine PCB.of_body Tryz.func76 rfl (by decide) Tryz.ntmps76 Tryz.results76 rfl rfl rfl ?_ rfl rfl
    repeat' (first | (simp only [go_sem, zA, zB, zC, zD, zE, zF, zG, reduceCtorEq, zH, zI, zJ, zK, zL, pin, encP_eq g, hk, lB, putA_enc]; all_goals fail_if_success guard_target =ₛ False) | (with_reducible first | ((first | refine yA rfl ?_ | refine yB rfl ?_ | refine yS ?_ | refine yT (by kernel_rfl) ?_ | refine yC rfl ?_ | refine yD rfl ?_ | refine yE rfl ?_ | refine yF rfl ?_ | refine yG rfl ?_ | refine yH rfl ?_); intro K hK) | (apply hK; clear hK K) | refine yU ?_ | (refine yV (by with_unfolding_all rfl) ?_ ?_ <;> intro h <;> (try simp only [zM, zN] at h) <;> try exact absurd h (by decide)) | refine yW ?_ | refine yX ?_ | refine yY ?_ | (refine ⟨fun h => ?_, fun h => ?_⟩ <;> (try simp only [zM, zN] at h) <;> try simp only [h]) | refine yZ mixed (by kernel_rfl) fun K hK => ?_ | refine ⟨(by kernel_rfl : depB _ _ _ = true), ?_⟩ | refine Or.inl ?_) | (clear hK K))
    all_goals (rw [matchP_eq, hk]; simp only [Int.reduceEq, zb, decide_true, decide_false, cond_true, cond_false, *]; (try refine ⟨by first | trivial | rfl, ?_⟩); intro q hq; simp only [lN] at hq; subst hq; simp)
  iterate 4
    ·
      refine PCB.of_body Tryz.func76 rfl (by decide) Tryz.ntmps76 Tryz.results76 rfl rfl rfl ?_ rfl rfl
      repeat' (first | (simp only [go_sem, zA, zB, zC, zD, zE, zF, zG, reduceCtorEq, zH, zI, zJ, zK, zL, pin, encP_eq g, encVal_eq v, hk, lB]; all_goals fail_if_success guard_target =ₛ False) | (with_reducible first | ((first | refine yA rfl ?_ | refine yB rfl ?_ | refine yS ?_ | refine yT (by kernel_rfl) ?_ | refine yC rfl ?_ | refine yD rfl ?_ | refine yE rfl ?_ | refine yF rfl ?_ | refine yG rfl ?_ | refine yH rfl ?_); intro K hK) | (apply hK; clear hK K) | refine yU ?_ | (refine yV (by with_unfolding_all rfl) ?_ ?_ <;> intro h <;> (try simp only [zM, zN] at h) <;> try exact absurd h (by decide)) | refine yW ?_ | refine yX ?_ | refine yY ?_ | (refine ⟨fun h => ?_, fun h => ?_⟩ <;> (try simp only [zM, zN] at h) <;> try simp only [h]) | refine yZ mixed (by kernel_rfl) fun K hK => ?_ | refine ⟨(by kernel_rfl : depB _ _ _ = true), ?_⟩ | refine Or.inl ?_) | (clear hK K))
      all_goals (rw [matchP_eq, hk]; simp only [Int.reduceEq, zb, decide_true, decide_false, cond_true, cond_false, *]; (try refine ⟨by first | trivial | rfl, ?_⟩); intro q hq; simp only [lN] at hq; subst hq; simp)
  · have hal := matchAll_c g.kids v.kids m (fun k hk w hw => ih k hk w (treeB_kid hv hw))
    rw [matchP_eq, hk]
    cases hz : decide (v.kind = 6) <;> simp only [Int.reduceEq, zb, decide_true, decide_false, cond_true, cond_false, Bool.true_and, Bool.false_and]
    ·
      refine PCB.of_body Tryz.func76 rfl (by decide) Tryz.ntmps76 Tryz.results76 rfl rfl rfl ?_ rfl rfl
      repeat' (first | (simp only [go_sem, zA, zB, zC, zD, zE, zF, zG, reduceCtorEq, zH, zI, zJ, zK, zL, pin, encP_eq g, encVal_eq v, hk, hz, lB]; all_goals fail_if_success guard_target =ₛ False) | (with_reducible first | ((first | refine yA rfl ?_ | refine yB rfl ?_ | refine yS ?_ | refine yT (by kernel_rfl) ?_ | refine yC rfl ?_ | refine yD rfl ?_ | refine yE rfl ?_ | refine yF rfl ?_ | refine yG rfl ?_ | refine yH rfl ?_); intro K hK) | (apply hK; clear hK K) | refine yU ?_ | (refine yV (by with_unfolding_all rfl) ?_ ?_ <;> intro h <;> (try simp only [zM, zN] at h) <;> try exact absurd h (by decide)) | refine yW ?_ | refine yX ?_ | refine yY ?_ | (refine ⟨fun h => ?_, fun h => ?_⟩ <;> (try simp only [zM, zN] at h) <;> try simp only [h]) | refine yZ mixed (by kernel_rfl) fun K hK => ?_ | refine ⟨(by kernel_rfl : depB _ _ _ = true), ?_⟩ | refine Or.inl ?_) | (clear hK K))
      all_goals ((try refine ⟨by first | trivial | rfl, ?_⟩); intro q hq; simp only [lN] at hq; subst hq; simp)
    ·
      refine PCB.of_body Tryz.func76 rfl (by decide) Tryz.ntmps76 Tryz.results76 rfl rfl rfl ?_ rfl rfl
      repeat' (first | (simp only [go_sem, zA, zB, zC, zD, zE, zF, zG, reduceCtorEq, zH, zI, zJ, zK, zL, pin, encP_eq g, encVal_eq v, hk, hz, lB]; all_goals fail_if_success guard_target =ₛ False) | (with_reducible first | ((first | refine yA rfl ?_ | refine yB rfl ?_ | refine yS ?_ | refine yT (by kernel_rfl) ?_ | refine yC rfl ?_ | refine yD rfl ?_ | refine yE rfl ?_ | refine yF rfl ?_ | refine yG rfl ?_ | refine yH rfl ?_); intro K hK) | (apply hK; clear hK K) | refine yU ?_ | (refine yV (by with_unfolding_all rfl) ?_ ?_ <;> intro h <;> (try simp only [zM, zN] at h) <;> try exact absurd h (by decide)) | refine yW ?_ | refine yX ?_ | refine yY ?_ | (refine ⟨fun h => ?_, fun h => ?_⟩ <;> (try simp only [zM, zN] at h) <;> try simp only [h])) | (refine ⟨1000000, _, _, _, PCBk.mk 1000000 hal, rfl, ?_⟩) | (with_reducible first | (refine xA (id := 19) [9] [1000000] mixed (by kernel_rfl) fun K hK => ?_; simp only [Bx.outs, Bx.drop, cond_true, cond_false, Nat.reduceBEq, go_sem]) | refine yZ mixed (by kernel_rfl) fun K hK => ?_ | refine ⟨(by kernel_rfl : depB _ _ _ = true), ?_⟩ | refine Or.inl ?_) | (clear hK K))
      all_goals ((try refine ⟨by first | trivial | rfl, ?_⟩); intro q hq; simp only [lN] at hq; subst hq; simp)
  · have hal := matchAll_c g.kids v.kids m (fun k hk w hw => ih k hk w (treeB_kid hv hw))
    rw [matchP_eq, hk]
    cases hz : decide (v.kind = 7) <;> simp only [Int.reduceEq, zb, decide_true, decide_false, cond_true, cond_false, Bool.true_and, Bool.false_and]
    ·
      refine PCB.of_body Tryz.func76 rfl (by decide) Tryz.ntmps76 Tryz.results76 rfl rfl rfl ?_ rfl rfl
      repeat' (first | (simp only [go_sem, zA, zB, zC, zD, zE, zF, zG, reduceCtorEq, zH, zI, zJ, zK, zL, pin, encP_eq g, encVal_eq v, hk, hz, lB]; all_goals fail_if_success guard_target =ₛ False) | (with_reducible first | ((first | refine yA rfl ?_ | refine yB rfl ?_ | refine yS ?_ | refine yT (by kernel_rfl) ?_ | refine yC rfl ?_ | refine yD rfl ?_ | refine yE rfl ?_ | refine yF rfl ?_ | refine yG rfl ?_ | refine yH rfl ?_); intro K hK) | (apply hK; clear hK K) | refine yU ?_ | (refine yV (by with_unfolding_all rfl) ?_ ?_ <;> intro h <;> (try simp only [zM, zN] at h) <;> try exact absurd h (by decide)) | refine yW ?_ | refine yX ?_ | refine yY ?_ | (refine ⟨fun h => ?_, fun h => ?_⟩ <;> (try simp only [zM, zN] at h) <;> try simp only [h]) | refine yZ mixed (by kernel_rfl) fun K hK => ?_ | refine ⟨(by kernel_rfl : depB _ _ _ = true), ?_⟩ | refine Or.inl ?_) | (clear hK K))
      all_goals ((try refine ⟨by first | trivial | rfl, ?_⟩); intro q hq; simp only [lN] at hq; subst hq; simp)
    ·
      refine PCB.of_body Tryz.func76 rfl (by decide) Tryz.ntmps76 Tryz.results76 rfl rfl rfl ?_ rfl rfl
      repeat' (first | (simp only [go_sem, zA, zB, zC, zD, zE, zF, zG, reduceCtorEq, zH, zI, zJ, zK, zL, pin, encP_eq g, encVal_eq v, hk, hz, lB]; all_goals fail_if_success guard_target =ₛ False) | (with_reducible first | ((first | refine yA rfl ?_ | refine yB rfl ?_ | refine yS ?_ | refine yT (by kernel_rfl) ?_ | refine yC rfl ?_ | refine yD rfl ?_ | refine yE rfl ?_ | refine yF rfl ?_ | refine yG rfl ?_ | refine yH rfl ?_); intro K hK) | (apply hK; clear hK K) | refine yU ?_ | (refine yV (by with_unfolding_all rfl) ?_ ?_ <;> intro h <;> (try simp only [zM, zN] at h) <;> try exact absurd h (by decide)) | refine yW ?_ | refine yX ?_ | refine yY ?_ | (refine ⟨fun h => ?_, fun h => ?_⟩ <;> (try simp only [zM, zN] at h) <;> try simp only [h])) | (refine ⟨1000000, _, _, _, PCBk.mk 1000000 hal, rfl, ?_⟩) | (with_reducible first | (refine xA (id := 21) [9] [1000000] mixed (by kernel_rfl) fun K hK => ?_; simp only [Bx.outs, Bx.drop, cond_true, cond_false, Nat.reduceBEq, go_sem]) | refine yZ mixed (by kernel_rfl) fun K hK => ?_ | refine ⟨(by kernel_rfl : depB _ _ _ = true), ?_⟩ | refine Or.inl ?_) | (clear hK K))
      all_goals ((try refine ⟨by first | trivial | rfl, ?_⟩); intro q hq; simp only [lN] at hq; subst hq; simp)
  · rw [matchP_eq, hk]
    cases hz : decide (v.kind = 8) <;> simp only [Int.reduceEq, zb, decide_true, decide_false, cond_true, cond_false]
    ·
      refine PCB.of_body Tryz.func76 rfl (by decide) Tryz.ntmps76 Tryz.results76 rfl rfl rfl ?_ rfl rfl
      repeat' (first | (simp only [go_sem, zA, zB, zC, zD, zE, zF, zG, reduceCtorEq, zH, zI, zJ, zK, zL, pin, encP_eq g, encVal_eq v, hk, hz, lB]; all_goals fail_if_success guard_target =ₛ False) | (with_reducible first | ((first | refine yA rfl ?_ | refine yB rfl ?_ | refine yS ?_ | refine yT (by kernel_rfl) ?_ | refine yC rfl ?_ | refine yD rfl ?_ | refine yE rfl ?_ | refine yF rfl ?_ | refine yG rfl ?_ | refine yH rfl ?_); intro K hK) | (apply hK; clear hK K) | refine yU ?_ | (refine yV (by with_unfolding_all rfl) ?_ ?_ <;> intro h <;> (try simp only [zM, zN] at h) <;> try exact absurd h (by decide)) | refine yW ?_ | refine yX ?_ | refine yY ?_ | (refine ⟨fun h => ?_, fun h => ?_⟩ <;> (try simp only [zM, zN] at h) <;> try simp only [h]) | refine yZ mixed (by kernel_rfl) fun K hK => ?_ | refine ⟨(by kernel_rfl : depB _ _ _ = true), ?_⟩ | refine Or.inl ?_) | (clear hK K))
      all_goals ((try refine ⟨by first | trivial | rfl, ?_⟩); intro q hq; simp only [lN] at hq; subst hq; simp)
    · have hmm := matchMap_c g v m (by omega) (treeB_map hv (of_decide_eq_true hz)) (fun k hk w hw => ih k hk w (treeB_kid hv hw))
      rw [show Pt g = T.st (encP g) from rfl, show Vt v = T.st (encVal v) from rfl, encP_eq g, encVal_eq v, hk] at hmm
      refine PCB.of_body Tryz.func76 rfl (by decide) Tryz.ntmps76 Tryz.results76 rfl rfl rfl ?_ rfl rfl
      repeat' (first | (simp only [go_sem, zA, zB, zC, zD, zE, zF, zG, reduceCtorEq, zH, zI, zJ, zK, zL, pin, encP_eq g, encVal_eq v, hk, hz, lB]; all_goals fail_if_success guard_target =ₛ False) | (with_reducible first | ((first | refine yA rfl ?_ | refine yB rfl ?_ | refine yS ?_ | refine yT (by kernel_rfl) ?_ | refine yC rfl ?_ | refine yD rfl ?_ | refine yE rfl ?_ | refine yF rfl ?_ | refine yG rfl ?_ | refine yH rfl ?_); intro K hK) | (apply hK; clear hK K) | refine yU ?_ | (refine yV (by with_unfolding_all rfl) ?_ ?_ <;> intro h <;> (try simp only [zM, zN] at h) <;> try exact absurd h (by decide)) | refine yW ?_ | refine yX ?_ | refine yY ?_ | (refine ⟨fun h => ?_, fun h => ?_⟩ <;> (try simp only [zM, zN] at h) <;> try simp only [h])) | (refine ⟨1000000, _, _, _, PCBk.mk 1000000 hmm, rfl, ?_⟩) | (with_reducible first | refine yZ mixed (by kernel_rfl) fun K hK => ?_ | refine ⟨(by kernel_rfl : depB _ _ _ = true), ?_⟩ | refine Or.inl ?_) | (clear hK K))
      all_goals ((try refine ⟨by first | trivial | rfl, ?_⟩); intro q hq; simp only [lN] at hq; subst hq; simp)
  · have h0 := ih k0 (by rw [hk0]; simp) v hv (putV g.text v m)
    have hk0' : (g.kids.map encP)[0]? = some (encP k0) := by rw [hk0]; rfl
    rw [matchP_eq, hk, hk0]
    simp only [Int.reduceEq, zb, decide_true, decide_false, cond_true, cond_false, matchH]
    refine PCB.of_body Tryz.func76 rfl (by decide) Tryz.ntmps76 Tryz.results76 rfl rfl rfl ?_ rfl rfl
    repeat' (first | (simp only [go_sem, zA, zB, zC, zD, zE, zF, zG, reduceCtorEq, zH, zI, zJ, zK, zL, pin, encP_eq g, hk, lB, putA_enc]; all_goals fail_if_success guard_target =ₛ False) | (with_reducible first | ((first | refine yA rfl ?_ | refine yB rfl ?_ | refine yS ?_ | refine yT (by kernel_rfl) ?_ | refine yC rfl ?_ | refine yD rfl ?_ | refine yE rfl ?_ | refine yF rfl ?_ | refine yG rfl ?_ | refine yH rfl ?_); intro K hK) | (apply hK; clear hK K) | refine yU ?_ | (refine yV (by with_unfolding_all rfl) ?_ ?_ <;> intro h <;> (try simp only [zM, zN] at h) <;> try exact absurd h (by decide)) | refine yW ?_ | refine yX ?_ | refine yY ?_ | (refine ⟨fun h => ?_, fun h => ?_⟩ <;> (try simp only [zM, zN] at h) <;> try simp only [h]) | refine ⟨encP k0, hk0', ?_⟩ | refine ⟨by omega, encP k0, hk0', ?_⟩) | (refine ⟨1000000, _, _, _, PCBk.mk 1000000 h0, rfl, ?_⟩) | (with_reducible first | (refine xA (id := 9) [6] [1000000] mixed (by kernel_rfl) fun K hK => ?_; simp only [Bx.outs, Bx.drop, cond_true, cond_false, Nat.reduceBEq, go_sem]) | refine yZ mixed (by kernel_rfl) fun K hK => ?_ | refine ⟨(by kernel_rfl : depB _ _ _ = true), ?_⟩ | refine Or.inl ?_) | (clear hK K))
    all_goals ((try refine ⟨by first | trivial | rfl, ?_⟩); intro q hq; simp only [lN] at hq; subst hq; simp)
termination_by cntP g
decreasing_by exact cntP_kid hk
inductive NoNodes : Dat → Prop
  | mk (d : Dat) (h : d.nodes = []) (hk : ∀ k ∈ d.kids, NoNodes k) : NoNodes d
theorem NoNodes.nodes {d : Dat} (h : NoNodes d) : d.nodes = [] := by cases h; assumption
theorem NoNodes.kid {d : Dat} (h : NoNodes d) : ∀ k ∈ d.kids, NoNodes k := by cases h; assumption
theorem eqKeyT (x y : KeyD) : eqStT zP 6 33 (encKey x) (encKey y) = some (decide (x.kind = y.kind) && (decide (x.text = y.text) && true)) := by kernel_rfl
theorem keyEq (x y : KeyD) : (decide (x.kind = y.kind) && decide (x.text = y.text)) = decide (x = y) := by
  obtain ⟨a, b⟩ := x; obtain ⟨c, d⟩ := y
  rw [← Bool.coe_iff_coe]; simp
end Go.Proofs.YteobojeemflggaaGreat
