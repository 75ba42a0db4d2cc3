/- A part of the proof. Conditions: those that each lemma states. -/
import Derived.Test.YteobojeemflggaaGreatPm8
import Derived.Test.YteobojeemflggaaGreatPm7
import Derived.Test.YteobojeemflggaaGreatPm4
open Go.Proofs.Tryz renaming prog → zP
open List renaming length_append → lA, length_map → lB, length_cons → lC, length_nil → lD, take_succ_cons → lG, take_zero → lH, drop_succ_cons → lI, drop_zero → lJ, take_length → lK
open Go.Sx renaming seqVC_stepN → yA, seqVC_stepG → yB, parVC_stepN → yC, parVC_stepG → yD, parEVC_stepN → yE, parEVC_stepG → yF, genVC_stepN → yG, genVC_stepG → yH
open Go.Sx.AWP renaming seq → yS, seqR → yT, block → yU, cond → yV, skip → yW, ret → yX, exit → yY, parR → yZ, segP → xB, range → xC, lenB → xE
open Go.Sx.Gh renaming to → xG
open Nat renaming reduceBEq → zA, reduceBNe → zB, reduceAdd → zC, reduceSub → zD, reduceMul → zE, reduceLeDiff → zF, reduceLT → zG, reduceEqDiff → zH
open Int renaming reduceToNat → zI, reduceLE → zJ, reduceLT → zK, reduceEq → zL
open Bool renaming not_eq_true' → zM, not_eq_false' → zN
set_option linter.unusedSimpArgs false
set_option linter.unusedVariables false
set_option maxRecDepth 20000
set_option maxHeartbeats 64000000
namespace Go.Proofs.YteobojeemflggaaGreat
open Go Go.Sx
set_option maxHeartbeats 64000000 in
theorem goodP_9 (g : Pat) (ih : ∀ k ∈ g.kids, PC zP 84 [Pt k] (Bo (treeP k))) (hk : g.kind = 9) : PC zP 84 [Pt g] (Bo (treeP g)) := by
  have htr := treeP_eq g
  have hz0 : decide ((0 : Int) < (g.kids.length : Int)) = !decide ((g.kids.length : Int) = 0) := by rw [← Bool.coe_iff_coe]; simp only [decide_eq_true_eq, Bool.not_eq_true', decide_eq_false_iff_not]; omega
  have hle : decide ((g.kids.length : Int) ≤ 8) = !decide ((8 : Int) < (g.kids.length : Int)) := by rw [← Bool.coe_iff_coe]; simp
  have heq : decide ((g.kids.length : Int) = (g.keys.length : Int)) = decide ((g.keys.length : Int) = (g.kids.length : Int)) := by rw [← Bool.coe_iff_coe]; simp only [decide_eq_true_eq]; omega
  cases e1 : decide ((g.keys.length : Int) = (g.kids.length : Int)) <;> cases e2 : decide ((8 : Int) < (g.kids.length : Int))
  all_goals
    rw [e1] at heq
    rw [e2] at hle
  case true.false =>
    have e3 : decide ((8 : Int) < (g.keys.length : Int)) = false := by simp only [decide_eq_true_eq, decide_eq_false_iff_not] at *; omega
    refine PCB.of_body Tryz.func84 rfl (by decide) Tryz.ntmps84 Tryz.results84 rfl rfl rfl ?_ rfl rfl
    repeat' (first | (with_reducible refine AWP.join (id := 6) (fun b : Bool => [(5, Bo b)]) (fun _ => []) [1, 3] [1] (fun b => Is (vP g) b) ?_ ?_) | (simp only [go_sem, zA, zB, zC, zD, zE, zF, zG, reduceCtorEq, zH, zI, zJ, zK, zL, encP_eq g, hk, heq, hle, lB]; all_goals fail_if_success guard_target =ₛ False) | (with_reducible first | ((first | refine yA rfl ?_ | refine yB rfl ?_ | refine yS ?_ | refine yT (by kernel_rfl) ?_ | refine yC rfl ?_ | refine yD rfl ?_ | refine yE rfl ?_ | refine yF rfl ?_ | refine yG rfl ?_ | refine yH rfl ?_); intro K hK) | (apply hK; clear hK K) | refine yU ?_ | (refine yV (by with_unfolding_all rfl) ?_ ?_ <;> intro h <;> (try simp only [zM, zN] at h) <;> try exact absurd h (by decide)) | refine yW ?_ | refine yX ?_ | refine yY ?_ | (refine ⟨fun h => ?_, fun h => ?_⟩ <;> (try simp only [zM, zN] at h) <;> try simp only [h]) | refine yZ mixed (by kernel_rfl) fun K hK => ?_ | refine ⟨(by kernel_rfl : depB _ _ _ = true), ?_⟩ | refine Or.inl ?_) | (clear hK K))
    any_goals (refine fin0 ?_; rw [htr]; simp only [vP, badP, bodyP, numP, textP, kidsP, keysP, mapP, hk, hz0, Int.reduceEq, Int.reduceLE, *, zb, Bool.not_not, cond_true, cond_false, decide_true, decide_false]; done)
    ·
      refine xE 1 4 rfl rfl fun hlen0 => ?_
      (try rw [lB] at hlen0)
      refine xC (S := Bool) (g.keys) encKey (fun k s => (6, I .i64 (k : Nat)) :: [(5, Bo s)]) (fun k s => []) [1, 3] [1] (fun k s => Is s (true && goB keyC validKeyB none (g.keys.take k))) (true) (by simp only [go_sem, zA, zB, zC, zD, zE, zF, zG, reduceCtorEq, zH, zI, zJ, zK, zL, encP_eq]; exact (by refine xG [] ?_ ?_ rfl rfl rfl <;> repeat first | exact trivial | refine ⟨rfl, ?_⟩ | refine ⟨by (simp only [go_sem, zA, zB, zC, zD, zE, zF, zG, reduceCtorEq, zH, zI, zJ, zK, zL, lA, lB, lC, lD, Nat.zero_add]) <;> rfl, ?_⟩)) ?_ ?_ ?_
      · simp [Is, goB]
      · intro k s x hlt hx hx' hb hok
        simp only [go_sem, zA, zB, zC, zD, zE, zF, zG, reduceCtorEq, zH, zI, zJ, zK, zL]
        cases s
        ·
          repeat' (first | (simp only [go_sem, zA, zB, zC, zD, zE, zF, zG, reduceCtorEq, zH, zI, zJ, zK, zL, encP_eq g, lB, hb]; all_goals fail_if_success guard_target =ₛ False) | (with_reducible first | ((first | refine yA rfl ?_ | refine yB rfl ?_ | refine yS ?_ | refine yT (by kernel_rfl) ?_ | refine yC rfl ?_ | refine yD rfl ?_ | refine yE rfl ?_ | refine yF rfl ?_ | refine yG rfl ?_ | refine yH rfl ?_); intro K hK) | (apply hK; clear hK K) | refine yU ?_ | (refine yV (by with_unfolding_all rfl) ?_ ?_ <;> intro h <;> (try simp only [zM, zN] at h) <;> try exact absurd h (by decide)) | refine yW ?_ | refine yX ?_ | refine yY ?_ | (refine ⟨fun h => ?_, fun h => ?_⟩ <;> (try simp only [zM, zN] at h) <;> try simp only [h]) | refine yZ mixed (by kernel_rfl) fun K hK => ?_ | refine ⟨(by kernel_rfl : depB _ _ _ = true), ?_⟩ | refine Or.inl ?_) | (clear hK K))
          all_goals (rw [wrap_succ hlt hlen0])
          all_goals (refine ⟨false, ?_, (by refine xG [] ?_ ?_ rfl rfl rfl <;> repeat first | exact trivial | refine ⟨rfl, ?_⟩ | refine ⟨by (simp only [go_sem, zA, zB, zC, zD, zE, zF, zG, reduceCtorEq, zH, zI, zJ, zK, zL, lA, lB, lC, lD, Nat.zero_add]) <;> rfl, ?_⟩)⟩)
          all_goals
            rcases Nat.eq_zero_or_eq_succ_pred k with hk0 | hk0
            · first | (show (_ : Bool) = _; rfl) | (exfalso; revert hok; simp [Is]; done) | (unfold Is at hok ⊢; rw [goB_take0 hk0 hx]; generalize goB keyC validKeyB none (g.keys.take k) = G at hok ⊢; revert hok; cases G <;> simp)
            · obtain ⟨j, rfl⟩ : ∃ j, k = j + 1 := ⟨_, hk0⟩
              obtain ⟨y, hy, _, _, _⟩ := at_lt (enc := encKey) (show j < g.keys.length by omega)
              first | (show (_ : Bool) = _; rfl) | (exfalso; revert hok; simp [Is]; done) | (unfold Is at hok ⊢; rw [goB_takeS hy hx]; generalize goB keyC validKeyB none (g.keys.take (j + 1)) = G at hok ⊢; revert hok; cases G <;> simp)
        ·
          rcases Nat.eq_zero_or_eq_succ_pred k with hk0 | hk0
          · have hp0 : decide ((k : Int) = 0) = true := by rw [hk0]; rfl
            cases hz : validKeyB x
            all_goals
              repeat' (first | (simp only [go_sem, zA, zB, zC, zD, zE, zF, zG, reduceCtorEq, zH, zI, zJ, zK, zL, encP_eq g, lB, hb, hz, hp0]; all_goals fail_if_success guard_target =ₛ False) | (with_reducible first | ((first | refine yA rfl ?_ | refine yB rfl ?_ | refine yS ?_ | refine yT (by kernel_rfl) ?_ | refine yC rfl ?_ | refine yD rfl ?_ | refine yE rfl ?_ | refine yF rfl ?_ | refine yG rfl ?_ | refine yH rfl ?_); intro K hK) | (apply hK; clear hK K) | refine yU ?_ | (refine yV (by with_unfolding_all rfl) ?_ ?_ <;> intro h <;> (try simp only [zM, zN] at h) <;> try exact absurd h (by decide)) | refine yW ?_ | refine yX ?_ | refine yY ?_ | (refine ⟨fun h => ?_, fun h => ?_⟩ <;> (try simp only [zM, zN] at h) <;> try simp only [h]) | refine ⟨_, validKey_c x, ?_⟩ | refine ⟨by omega, encKey x, hx', ?_⟩ | refine yZ mixed (by kernel_rfl) fun K hK => ?_ | refine ⟨(by kernel_rfl : depB _ _ _ = true), ?_⟩ | refine Or.inl ?_) | (clear hK K))
            ·
              all_goals (rw [wrap_succ hlt hlen0])
              all_goals (refine ⟨false, ?_, (by refine xG [] ?_ ?_ rfl rfl rfl <;> repeat first | exact trivial | refine ⟨rfl, ?_⟩ | refine ⟨by (simp only [go_sem, zA, zB, zC, zD, zE, zF, zG, reduceCtorEq, zH, zI, zJ, zK, zL, lA, lB, lC, lD, Nat.zero_add]) <;> rfl, ?_⟩)⟩)
              all_goals first | (show (_ : Bool) = _; rfl) | (exfalso; revert hok; simp [Is]; done) | (unfold Is at hok ⊢; rw [goB_take0 hk0 hx]; generalize goB keyC validKeyB none (g.keys.take k) = G at hok ⊢; rw [hz]; revert hok; cases G <;> simp)
            ·
              all_goals (rw [wrap_succ hlt hlen0])
              all_goals (refine ⟨true, ?_, (by refine xG [] ?_ ?_ rfl rfl rfl <;> repeat first | exact trivial | refine ⟨rfl, ?_⟩ | refine ⟨by (simp only [go_sem, zA, zB, zC, zD, zE, zF, zG, reduceCtorEq, zH, zI, zJ, zK, zL, lA, lB, lC, lD, Nat.zero_add]) <;> rfl, ?_⟩)⟩)
              all_goals first | (show (_ : Bool) = _; rfl) | (exfalso; revert hok; simp [Is]; done) | (unfold Is at hok ⊢; rw [goB_take0 hk0 hx]; generalize goB keyC validKeyB none (g.keys.take k) = G at hok ⊢; rw [hz]; revert hok; cases G <;> simp)
          · obtain ⟨j, rfl⟩ : ∃ j, k = j + 1 := ⟨_, hk0⟩
            obtain ⟨y, hy, hy', _, _⟩ := at_lt (enc := encKey) (show j < g.keys.length by omega)
            have hw : IntKind.i64.wrap (((j + 1 : Nat) : Int) - 1) = (j : Int) := by rw [w64 (by omega)]; omega
            have hp0 : decide (((j + 1 : Nat) : Int) = 0) = false := by simp only [decide_eq_false_iff_not]; omega
            cases hz : validKeyB x <;> cases hc : decide (keyC y x < 0)
            all_goals
              repeat' (first | (simp only [go_sem, zA, zB, zC, zD, zE, zF, zG, reduceCtorEq, zH, zI, zJ, zK, zL, encP_eq g, lB, hb, hz, hc, hp0, hw]; all_goals fail_if_success guard_target =ₛ False) | (with_reducible first | ((first | refine yA rfl ?_ | refine yB rfl ?_ | refine yS ?_ | refine yT (by kernel_rfl) ?_ | refine yC rfl ?_ | refine yD rfl ?_ | refine yE rfl ?_ | refine yF rfl ?_ | refine yG rfl ?_ | refine yH rfl ?_); intro K hK) | (apply hK; clear hK K) | refine yU ?_ | (refine yV (by with_unfolding_all rfl) ?_ ?_ <;> intro h <;> (try simp only [zM, zN] at h) <;> try exact absurd h (by decide)) | refine yW ?_ | refine yX ?_ | refine yY ?_ | (refine ⟨fun h => ?_, fun h => ?_⟩ <;> (try simp only [zM, zN] at h) <;> try simp only [h]) | refine ⟨_, validKey_c x, ?_⟩ | refine ⟨_, refKeys_c y x, ?_⟩ | refine ⟨by omega, encKey x, hx', ?_⟩ | refine ⟨by omega, encKey y, hy', ?_⟩ | refine yZ mixed (by kernel_rfl) fun K hK => ?_ | refine ⟨(by kernel_rfl : depB _ _ _ = true), ?_⟩ | refine Or.inl ?_) | (clear hK K))
            iterate 3
              ·
                all_goals (rw [wrap_succ hlt hlen0])
                all_goals (refine ⟨false, ?_, (by refine xG [] ?_ ?_ rfl rfl rfl <;> repeat first | exact trivial | refine ⟨rfl, ?_⟩ | refine ⟨by (simp only [go_sem, zA, zB, zC, zD, zE, zF, zG, reduceCtorEq, zH, zI, zJ, zK, zL, lA, lB, lC, lD, Nat.zero_add]) <;> rfl, ?_⟩)⟩)
                all_goals first | (show (_ : Bool) = _; rfl) | (exfalso; revert hok; simp [Is]; done) | (unfold Is at hok ⊢; rw [goB_takeS hy hx]; generalize goB keyC validKeyB none (g.keys.take (j + 1)) = G at hok ⊢; rw [hz, hc]; revert hok; cases G <;> simp)
            ·
              all_goals (rw [wrap_succ hlt hlen0])
              all_goals (refine ⟨true, ?_, (by refine xG [] ?_ ?_ rfl rfl rfl <;> repeat first | exact trivial | refine ⟨rfl, ?_⟩ | refine ⟨by (simp only [go_sem, zA, zB, zC, zD, zE, zF, zG, reduceCtorEq, zH, zI, zJ, zK, zL, lA, lB, lC, lD, Nat.zero_add]) <;> rfl, ?_⟩)⟩)
              all_goals first | (show (_ : Bool) = _; rfl) | (exfalso; revert hok; simp [Is]; done) | (unfold Is at hok ⊢; rw [goB_takeS hy hx]; generalize goB keyC validKeyB none (g.keys.take (j + 1)) = G at hok ⊢; rw [hz, hc]; revert hok; cases G <;> simp)
      · intro s hb hok
        simp only [go_sem, zA, zB, zC, zD, zE, zF, zG, reduceCtorEq, zH, zI, zJ, zK, zL]
        rw [Is, lK] at hok
        repeat' (first | (simp only [go_sem, zA, zB, zC, zD, zE, zF, zG, reduceCtorEq, zH, zI, zJ, zK, zL, encP_eq g, lB, hb]; all_goals fail_if_success guard_target =ₛ False) | (with_reducible first | ((first | refine yA rfl ?_ | refine yB rfl ?_ | refine yS ?_ | refine yT (by kernel_rfl) ?_ | refine yC rfl ?_ | refine yD rfl ?_ | refine yE rfl ?_ | refine yF rfl ?_ | refine yG rfl ?_ | refine yH rfl ?_); intro K hK) | (apply hK; clear hK K) | refine yU ?_ | (refine yV (by with_unfolding_all rfl) ?_ ?_ <;> intro h <;> (try simp only [zM, zN] at h) <;> try exact absurd h (by decide)) | refine yW ?_ | refine yX ?_ | refine yY ?_ | (refine ⟨fun h => ?_, fun h => ?_⟩ <;> (try simp only [zM, zN] at h) <;> try simp only [h]) | refine yZ mixed (by kernel_rfl) fun K hK => ?_ | refine ⟨(by kernel_rfl : depB _ _ _ = true), ?_⟩ | refine Or.inl ?_) | (clear hK K))
        refine ⟨_, ?_, (by refine xG [] ?_ ?_ rfl rfl rfl <;> repeat first | exact trivial | refine ⟨rfl, ?_⟩ | refine ⟨by (simp only [go_sem, zA, zB, zC, zD, zE, zF, zG, reduceCtorEq, zH, zI, zJ, zK, zL, lA, lB, lC, lD, Nat.zero_add]) <;> rfl, ?_⟩)⟩
        show vP g = s
        rw [show s = _ from hok]
        simp only [vP, badP, bodyP, numP, textP, kidsP, keysP, mapP, hk, hz0, Int.reduceEq, Int.reduceLE, *, zb, Bool.not_not, cond_true, cond_false, decide_true, decide_false]
    ·
      intro b hvb
      try simp only [go_sem, zA, zB, zC, zD, zE, zF, zG, reduceCtorEq, zH, zI, zJ, zK, zL]
      repeat' (first | (simp only [go_sem, zA, zB, zC, zD, zE, zF, zG, reduceCtorEq, zH, zI, zJ, zK, zL, encP_eq g, lB]; all_goals fail_if_success guard_target =ₛ False) | (with_reducible first | ((first | refine yA rfl ?_ | refine yB rfl ?_ | refine yS ?_ | refine yT (by kernel_rfl) ?_ | refine yC rfl ?_ | refine yD rfl ?_ | refine yE rfl ?_ | refine yF rfl ?_ | refine yG rfl ?_ | refine yH rfl ?_); intro K hK) | (apply hK; clear hK K) | refine yU ?_ | (refine yV (by with_unfolding_all rfl) ?_ ?_ <;> intro h <;> (try simp only [zM, zN] at h) <;> try exact absurd h (by decide)) | refine yW ?_ | refine yX ?_ | refine yY ?_ | (refine ⟨fun h => ?_, fun h => ?_⟩ <;> (try simp only [zM, zN] at h) <;> try simp only [h]) | refine yZ mixed (by kernel_rfl) fun K hK => ?_ | refine ⟨(by kernel_rfl : depB _ _ _ = true), ?_⟩ | refine Or.inl ?_) | (clear hK K))
      refine xE 1 3 rfl rfl fun hlen1 => ?_
      (try rw [lB] at hlen1)
      refine xC (S := Bool) (g.kids) encP (fun k s => (7, I .i64 (k : Nat)) :: [(5, Bo s)]) (fun k s => []) [1, 3] [1] (fun k s => Is s (b && (g.kids.take k).all treeP)) (b) (by simp only [go_sem, zA, zB, zC, zD, zE, zF, zG, reduceCtorEq, zH, zI, zJ, zK, zL, encP_eq]; exact (by refine xG [] ?_ ?_ rfl rfl rfl <;> repeat first | exact trivial | refine ⟨rfl, ?_⟩ | refine ⟨by (simp only [go_sem, zA, zB, zC, zD, zE, zF, zG, reduceCtorEq, zH, zI, zJ, zK, zL, lA, lB, lC, lD, Nat.zero_add]) <;> rfl, ?_⟩)) ?_ ?_ ?_
      · simp [Is]
      · intro k s x hlt hx hx' hb hok
        simp only [go_sem, zA, zB, zC, zD, zE, zF, zG, reduceCtorEq, zH, zI, zJ, zK, zL]
        have hix := ih x (List.mem_of_getElem? hx)
        have hat := all_takeP (p := treeP) hx
        cases s
        ·
          repeat' (first | (simp only [go_sem, zA, zB, zC, zD, zE, zF, zG, reduceCtorEq, zH, zI, zJ, zK, zL, encP_eq g, lB, hb]; all_goals fail_if_success guard_target =ₛ False) | (with_reducible first | ((first | refine yA rfl ?_ | refine yB rfl ?_ | refine yS ?_ | refine yT (by kernel_rfl) ?_ | refine yC rfl ?_ | refine yD rfl ?_ | refine yE rfl ?_ | refine yF rfl ?_ | refine yG rfl ?_ | refine yH rfl ?_); intro K hK) | (apply hK; clear hK K) | refine yU ?_ | (refine yV (by with_unfolding_all rfl) ?_ ?_ <;> intro h <;> (try simp only [zM, zN] at h) <;> try exact absurd h (by decide)) | refine yW ?_ | refine yX ?_ | refine yY ?_ | (refine ⟨fun h => ?_, fun h => ?_⟩ <;> (try simp only [zM, zN] at h) <;> try simp only [h]) | refine yZ mixed (by kernel_rfl) fun K hK => ?_ | refine ⟨(by kernel_rfl : depB _ _ _ = true), ?_⟩ | refine Or.inl ?_) | (clear hK K))
          all_goals (rw [wrap_succ hlt hlen1])
          all_goals (refine ⟨false, ?_, (by refine xG [] ?_ ?_ rfl rfl rfl <;> repeat first | exact trivial | refine ⟨rfl, ?_⟩ | refine ⟨by (simp only [go_sem, zA, zB, zC, zD, zE, zF, zG, reduceCtorEq, zH, zI, zJ, zK, zL, lA, lB, lC, lD, Nat.zero_add]) <;> rfl, ?_⟩)⟩)
          all_goals (show false = _; rw [hat, ← Bool.and_assoc, ← show false = _ from hok]; rfl)
        ·
          repeat' (first | (simp only [go_sem, zA, zB, zC, zD, zE, zF, zG, reduceCtorEq, zH, zI, zJ, zK, zL, encP_eq g, lB, hb]; all_goals fail_if_success guard_target =ₛ False) | (with_reducible first | ((first | refine yA rfl ?_ | refine yB rfl ?_ | refine yS ?_ | refine yT (by kernel_rfl) ?_ | refine yC rfl ?_ | refine yD rfl ?_ | refine yE rfl ?_ | refine yF rfl ?_ | refine yG rfl ?_ | refine yH rfl ?_); intro K hK) | (apply hK; clear hK K) | refine yU ?_ | (refine yV (by with_unfolding_all rfl) ?_ ?_ <;> intro h <;> (try simp only [zM, zN] at h) <;> try exact absurd h (by decide)) | refine yW ?_ | refine yX ?_ | refine yY ?_ | (refine ⟨fun h => ?_, fun h => ?_⟩ <;> (try simp only [zM, zN] at h) <;> try simp only [h]) | refine ⟨_, hix, ?_⟩ | refine ⟨by omega, encP x, hx', ?_⟩ | refine yZ mixed (by kernel_rfl) fun K hK => ?_ | refine ⟨(by kernel_rfl : depB _ _ _ = true), ?_⟩ | refine Or.inl ?_) | (clear hK K))
          all_goals (rw [wrap_succ hlt hlen1])
          all_goals (refine ⟨treeP x, ?_, (by refine xG [] ?_ ?_ rfl rfl rfl <;> repeat first | exact trivial | refine ⟨rfl, ?_⟩ | refine ⟨by (simp only [go_sem, zA, zB, zC, zD, zE, zF, zG, reduceCtorEq, zH, zI, zJ, zK, zL, lA, lB, lC, lD, Nat.zero_add]) <;> rfl, ?_⟩)⟩)
          all_goals (show treeP x = _; rw [hat, ← Bool.and_assoc, ← show true = _ from hok]; rfl)
      · intro s hb hok
        simp only [go_sem, zA, zB, zC, zD, zE, zF, zG, reduceCtorEq, zH, zI, zJ, zK, zL]
        rw [Is, lK] at hok
        repeat' (first | (simp only [go_sem, zA, zB, zC, zD, zE, zF, zG, reduceCtorEq, zH, zI, zJ, zK, zL, encP_eq g, lB, hb]; all_goals fail_if_success guard_target =ₛ False) | (with_reducible first | ((first | refine yA rfl ?_ | refine yB rfl ?_ | refine yS ?_ | refine yT (by kernel_rfl) ?_ | refine yC rfl ?_ | refine yD rfl ?_ | refine yE rfl ?_ | refine yF rfl ?_ | refine yG rfl ?_ | refine yH rfl ?_); intro K hK) | (apply hK; clear hK K) | refine yU ?_ | (refine yV (by with_unfolding_all rfl) ?_ ?_ <;> intro h <;> (try simp only [zM, zN] at h) <;> try exact absurd h (by decide)) | refine yW ?_ | refine yX ?_ | refine yY ?_ | (refine ⟨fun h => ?_, fun h => ?_⟩ <;> (try simp only [zM, zN] at h) <;> try simp only [h]) | refine yZ mixed (by kernel_rfl) fun K hK => ?_ | refine ⟨(by kernel_rfl : depB _ _ _ = true), ?_⟩ | refine Or.inl ?_) | (clear hK K))
        all_goals (refine fin0 ?_; rw [htr, show vP g = b from hvb, show s = _ from hok])
  iterate 3
    ·
      first | have e3 : decide ((8 : Int) < (g.keys.length : Int)) = true := by (simp only [decide_eq_true_eq] at *; omega) | skip
      refine PCB.of_body Tryz.func84 rfl (by decide) Tryz.ntmps84 Tryz.results84 rfl rfl rfl ?_ rfl rfl
      repeat' (first | (with_reducible refine AWP.join (id := 6) (fun b : Bool => [(5, Bo b)]) (fun _ => []) [1, 3] [1] (fun b => Is (vP g) b) ?_ ?_) | (simp only [go_sem, zA, zB, zC, zD, zE, zF, zG, reduceCtorEq, zH, zI, zJ, zK, zL, encP_eq g, hk, heq, hle, lB]; all_goals fail_if_success guard_target =ₛ False) | (with_reducible first | ((first | refine yA rfl ?_ | refine yB rfl ?_ | refine yS ?_ | refine yT (by kernel_rfl) ?_ | refine yC rfl ?_ | refine yD rfl ?_ | refine yE rfl ?_ | refine yF rfl ?_ | refine yG rfl ?_ | refine yH rfl ?_); intro K hK) | (apply hK; clear hK K) | refine yU ?_ | (refine yV (by with_unfolding_all rfl) ?_ ?_ <;> intro h <;> (try simp only [zM, zN] at h) <;> try exact absurd h (by decide)) | refine yW ?_ | refine yX ?_ | refine yY ?_ | (refine ⟨fun h => ?_, fun h => ?_⟩ <;> (try simp only [zM, zN] at h) <;> try simp only [h]) | refine yZ mixed (by kernel_rfl) fun K hK => ?_ | refine ⟨(by kernel_rfl : depB _ _ _ = true), ?_⟩ | refine Or.inl ?_) | (clear hK K))
      any_goals (refine fin0 ?_; rw [htr]; simp only [vP, badP, bodyP, numP, textP, kidsP, keysP, mapP, hk, hz0, Int.reduceEq, Int.reduceLE, *, zb, Bool.not_not, cond_true, cond_false, decide_true, decide_false]; done)
      ·
        refine xE 1 4 rfl rfl fun hlen0 => ?_
        (try rw [lB] at hlen0)
        refine xC (S := Bool) (g.keys) encKey (fun k s => (6, I .i64 (k : Nat)) :: [(5, Bo s)]) (fun k s => []) [1, 3] [1] (fun k s => Is s (false && goB keyC validKeyB none (g.keys.take k))) (false) (by simp only [go_sem, zA, zB, zC, zD, zE, zF, zG, reduceCtorEq, zH, zI, zJ, zK, zL, encP_eq]; exact (by refine xG [] ?_ ?_ rfl rfl rfl <;> repeat first | exact trivial | refine ⟨rfl, ?_⟩ | refine ⟨by (simp only [go_sem, zA, zB, zC, zD, zE, zF, zG, reduceCtorEq, zH, zI, zJ, zK, zL, lA, lB, lC, lD, Nat.zero_add]) <;> rfl, ?_⟩)) ?_ ?_ ?_
        · simp [Is, goB]
        · intro k s x hlt hx hx' hb hok
          simp only [go_sem, zA, zB, zC, zD, zE, zF, zG, reduceCtorEq, zH, zI, zJ, zK, zL]
          cases s
          ·
            repeat' (first | (simp only [go_sem, zA, zB, zC, zD, zE, zF, zG, reduceCtorEq, zH, zI, zJ, zK, zL, encP_eq g, lB, hb]; all_goals fail_if_success guard_target =ₛ False) | (with_reducible first | ((first | refine yA rfl ?_ | refine yB rfl ?_ | refine yS ?_ | refine yT (by kernel_rfl) ?_ | refine yC rfl ?_ | refine yD rfl ?_ | refine yE rfl ?_ | refine yF rfl ?_ | refine yG rfl ?_ | refine yH rfl ?_); intro K hK) | (apply hK; clear hK K) | refine yU ?_ | (refine yV (by with_unfolding_all rfl) ?_ ?_ <;> intro h <;> (try simp only [zM, zN] at h) <;> try exact absurd h (by decide)) | refine yW ?_ | refine yX ?_ | refine yY ?_ | (refine ⟨fun h => ?_, fun h => ?_⟩ <;> (try simp only [zM, zN] at h) <;> try simp only [h]) | refine yZ mixed (by kernel_rfl) fun K hK => ?_ | refine ⟨(by kernel_rfl : depB _ _ _ = true), ?_⟩ | refine Or.inl ?_) | (clear hK K))
            all_goals (rw [wrap_succ hlt hlen0])
            all_goals (refine ⟨false, ?_, (by refine xG [] ?_ ?_ rfl rfl rfl <;> repeat first | exact trivial | refine ⟨rfl, ?_⟩ | refine ⟨by (simp only [go_sem, zA, zB, zC, zD, zE, zF, zG, reduceCtorEq, zH, zI, zJ, zK, zL, lA, lB, lC, lD, Nat.zero_add]) <;> rfl, ?_⟩)⟩)
            all_goals
              rcases Nat.eq_zero_or_eq_succ_pred k with hk0 | hk0
              · first | (show (_ : Bool) = _; rfl) | (exfalso; revert hok; simp [Is]; done) | (unfold Is at hok ⊢; rw [goB_take0 hk0 hx]; generalize goB keyC validKeyB none (g.keys.take k) = G at hok ⊢; revert hok; cases G <;> simp)
              · obtain ⟨j, rfl⟩ : ∃ j, k = j + 1 := ⟨_, hk0⟩
                obtain ⟨y, hy, _, _, _⟩ := at_lt (enc := encKey) (show j < g.keys.length by omega)
                first | (show (_ : Bool) = _; rfl) | (exfalso; revert hok; simp [Is]; done) | (unfold Is at hok ⊢; rw [goB_takeS hy hx]; generalize goB keyC validKeyB none (g.keys.take (j + 1)) = G at hok ⊢; revert hok; cases G <;> simp)
          ·
            rcases Nat.eq_zero_or_eq_succ_pred k with hk0 | hk0
            · have hp0 : decide ((k : Int) = 0) = true := by rw [hk0]; rfl
              cases hz : validKeyB x
              all_goals
                repeat' (first | (simp only [go_sem, zA, zB, zC, zD, zE, zF, zG, reduceCtorEq, zH, zI, zJ, zK, zL, encP_eq g, lB, hb, hz, hp0]; all_goals fail_if_success guard_target =ₛ False) | (with_reducible first | ((first | refine yA rfl ?_ | refine yB rfl ?_ | refine yS ?_ | refine yT (by kernel_rfl) ?_ | refine yC rfl ?_ | refine yD rfl ?_ | refine yE rfl ?_ | refine yF rfl ?_ | refine yG rfl ?_ | refine yH rfl ?_); intro K hK) | (apply hK; clear hK K) | refine yU ?_ | (refine yV (by with_unfolding_all rfl) ?_ ?_ <;> intro h <;> (try simp only [zM, zN] at h) <;> try exact absurd h (by decide)) | refine yW ?_ | refine yX ?_ | refine yY ?_ | (refine ⟨fun h => ?_, fun h => ?_⟩ <;> (try simp only [zM, zN] at h) <;> try simp only [h]) | refine ⟨_, validKey_c x, ?_⟩ | refine ⟨by omega, encKey x, hx', ?_⟩ | refine yZ mixed (by kernel_rfl) fun K hK => ?_ | refine ⟨(by kernel_rfl : depB _ _ _ = true), ?_⟩ | refine Or.inl ?_) | (clear hK K))
              ·
                all_goals (rw [wrap_succ hlt hlen0])
                all_goals (refine ⟨false, ?_, (by refine xG [] ?_ ?_ rfl rfl rfl <;> repeat first | exact trivial | refine ⟨rfl, ?_⟩ | refine ⟨by (simp only [go_sem, zA, zB, zC, zD, zE, zF, zG, reduceCtorEq, zH, zI, zJ, zK, zL, lA, lB, lC, lD, Nat.zero_add]) <;> rfl, ?_⟩)⟩)
                all_goals first | (show (_ : Bool) = _; rfl) | (exfalso; revert hok; simp [Is]; done) | (unfold Is at hok ⊢; rw [goB_take0 hk0 hx]; generalize goB keyC validKeyB none (g.keys.take k) = G at hok ⊢; rw [hz]; revert hok; cases G <;> simp)
              ·
                all_goals (rw [wrap_succ hlt hlen0])
                all_goals (refine ⟨true, ?_, (by refine xG [] ?_ ?_ rfl rfl rfl <;> repeat first | exact trivial | refine ⟨rfl, ?_⟩ | refine ⟨by (simp only [go_sem, zA, zB, zC, zD, zE, zF, zG, reduceCtorEq, zH, zI, zJ, zK, zL, lA, lB, lC, lD, Nat.zero_add]) <;> rfl, ?_⟩)⟩)
                all_goals first | (show (_ : Bool) = _; rfl) | (exfalso; revert hok; simp [Is]; done) | (unfold Is at hok ⊢; rw [goB_take0 hk0 hx]; generalize goB keyC validKeyB none (g.keys.take k) = G at hok ⊢; rw [hz]; revert hok; cases G <;> simp)
            · obtain ⟨j, rfl⟩ : ∃ j, k = j + 1 := ⟨_, hk0⟩
              obtain ⟨y, hy, hy', _, _⟩ := at_lt (enc := encKey) (show j < g.keys.length by omega)
              have hw : IntKind.i64.wrap (((j + 1 : Nat) : Int) - 1) = (j : Int) := by rw [w64 (by omega)]; omega
              have hp0 : decide (((j + 1 : Nat) : Int) = 0) = false := by simp only [decide_eq_false_iff_not]; omega
              cases hz : validKeyB x <;> cases hc : decide (keyC y x < 0)
              all_goals
                repeat' (first | (simp only [go_sem, zA, zB, zC, zD, zE, zF, zG, reduceCtorEq, zH, zI, zJ, zK, zL, encP_eq g, lB, hb, hz, hc, hp0, hw]; all_goals fail_if_success guard_target =ₛ False) | (with_reducible first | ((first | refine yA rfl ?_ | refine yB rfl ?_ | refine yS ?_ | refine yT (by kernel_rfl) ?_ | refine yC rfl ?_ | refine yD rfl ?_ | refine yE rfl ?_ | refine yF rfl ?_ | refine yG rfl ?_ | refine yH rfl ?_); intro K hK) | (apply hK; clear hK K) | refine yU ?_ | (refine yV (by with_unfolding_all rfl) ?_ ?_ <;> intro h <;> (try simp only [zM, zN] at h) <;> try exact absurd h (by decide)) | refine yW ?_ | refine yX ?_ | refine yY ?_ | (refine ⟨fun h => ?_, fun h => ?_⟩ <;> (try simp only [zM, zN] at h) <;> try simp only [h]) | refine ⟨_, validKey_c x, ?_⟩ | refine ⟨_, refKeys_c y x, ?_⟩ | refine ⟨by omega, encKey x, hx', ?_⟩ | refine ⟨by omega, encKey y, hy', ?_⟩ | refine yZ mixed (by kernel_rfl) fun K hK => ?_ | refine ⟨(by kernel_rfl : depB _ _ _ = true), ?_⟩ | refine Or.inl ?_) | (clear hK K))
              iterate 3
                ·
                  all_goals (rw [wrap_succ hlt hlen0])
                  all_goals (refine ⟨false, ?_, (by refine xG [] ?_ ?_ rfl rfl rfl <;> repeat first | exact trivial | refine ⟨rfl, ?_⟩ | refine ⟨by (simp only [go_sem, zA, zB, zC, zD, zE, zF, zG, reduceCtorEq, zH, zI, zJ, zK, zL, lA, lB, lC, lD, Nat.zero_add]) <;> rfl, ?_⟩)⟩)
                  all_goals first | (show (_ : Bool) = _; rfl) | (exfalso; revert hok; simp [Is]; done) | (unfold Is at hok ⊢; rw [goB_takeS hy hx]; generalize goB keyC validKeyB none (g.keys.take (j + 1)) = G at hok ⊢; rw [hz, hc]; revert hok; cases G <;> simp)
              ·
                all_goals (rw [wrap_succ hlt hlen0])
                all_goals (refine ⟨true, ?_, (by refine xG [] ?_ ?_ rfl rfl rfl <;> repeat first | exact trivial | refine ⟨rfl, ?_⟩ | refine ⟨by (simp only [go_sem, zA, zB, zC, zD, zE, zF, zG, reduceCtorEq, zH, zI, zJ, zK, zL, lA, lB, lC, lD, Nat.zero_add]) <;> rfl, ?_⟩)⟩)
                all_goals first | (show (_ : Bool) = _; rfl) | (exfalso; revert hok; simp [Is]; done) | (unfold Is at hok ⊢; rw [goB_takeS hy hx]; generalize goB keyC validKeyB none (g.keys.take (j + 1)) = G at hok ⊢; rw [hz, hc]; revert hok; cases G <;> simp)
        · intro s hb hok
          simp only [go_sem, zA, zB, zC, zD, zE, zF, zG, reduceCtorEq, zH, zI, zJ, zK, zL]
          rw [Is, lK] at hok
          repeat' (first | (simp only [go_sem, zA, zB, zC, zD, zE, zF, zG, reduceCtorEq, zH, zI, zJ, zK, zL, encP_eq g, lB, hb]; all_goals fail_if_success guard_target =ₛ False) | (with_reducible first | ((first | refine yA rfl ?_ | refine yB rfl ?_ | refine yS ?_ | refine yT (by kernel_rfl) ?_ | refine yC rfl ?_ | refine yD rfl ?_ | refine yE rfl ?_ | refine yF rfl ?_ | refine yG rfl ?_ | refine yH rfl ?_); intro K hK) | (apply hK; clear hK K) | refine yU ?_ | (refine yV (by with_unfolding_all rfl) ?_ ?_ <;> intro h <;> (try simp only [zM, zN] at h) <;> try exact absurd h (by decide)) | refine yW ?_ | refine yX ?_ | refine yY ?_ | (refine ⟨fun h => ?_, fun h => ?_⟩ <;> (try simp only [zM, zN] at h) <;> try simp only [h]) | refine yZ mixed (by kernel_rfl) fun K hK => ?_ | refine ⟨(by kernel_rfl : depB _ _ _ = true), ?_⟩ | refine Or.inl ?_) | (clear hK K))
          refine ⟨_, ?_, (by refine xG [] ?_ ?_ rfl rfl rfl <;> repeat first | exact trivial | refine ⟨rfl, ?_⟩ | refine ⟨by (simp only [go_sem, zA, zB, zC, zD, zE, zF, zG, reduceCtorEq, zH, zI, zJ, zK, zL, lA, lB, lC, lD, Nat.zero_add]) <;> rfl, ?_⟩)⟩
          show vP g = s
          rw [show s = _ from hok]
          simp only [vP, badP, bodyP, numP, textP, kidsP, keysP, mapP, hk, hz0, Int.reduceEq, Int.reduceLE, *, zb, Bool.not_not, cond_true, cond_false, decide_true, decide_false]
      ·
        intro b hvb
        try simp only [go_sem, zA, zB, zC, zD, zE, zF, zG, reduceCtorEq, zH, zI, zJ, zK, zL]
        repeat' (first | (simp only [go_sem, zA, zB, zC, zD, zE, zF, zG, reduceCtorEq, zH, zI, zJ, zK, zL, encP_eq g, lB]; all_goals fail_if_success guard_target =ₛ False) | (with_reducible first | ((first | refine yA rfl ?_ | refine yB rfl ?_ | refine yS ?_ | refine yT (by kernel_rfl) ?_ | refine yC rfl ?_ | refine yD rfl ?_ | refine yE rfl ?_ | refine yF rfl ?_ | refine yG rfl ?_ | refine yH rfl ?_); intro K hK) | (apply hK; clear hK K) | refine yU ?_ | (refine yV (by with_unfolding_all rfl) ?_ ?_ <;> intro h <;> (try simp only [zM, zN] at h) <;> try exact absurd h (by decide)) | refine yW ?_ | refine yX ?_ | refine yY ?_ | (refine ⟨fun h => ?_, fun h => ?_⟩ <;> (try simp only [zM, zN] at h) <;> try simp only [h]) | refine yZ mixed (by kernel_rfl) fun K hK => ?_ | refine ⟨(by kernel_rfl : depB _ _ _ = true), ?_⟩ | refine Or.inl ?_) | (clear hK K))
        refine xE 1 3 rfl rfl fun hlen1 => ?_
        (try rw [lB] at hlen1)
        refine xC (S := Bool) (g.kids) encP (fun k s => (7, I .i64 (k : Nat)) :: [(5, Bo s)]) (fun k s => []) [1, 3] [1] (fun k s => Is s (b && (g.kids.take k).all treeP)) (b) (by simp only [go_sem, zA, zB, zC, zD, zE, zF, zG, reduceCtorEq, zH, zI, zJ, zK, zL, encP_eq]; exact (by refine xG [] ?_ ?_ rfl rfl rfl <;> repeat first | exact trivial | refine ⟨rfl, ?_⟩ | refine ⟨by (simp only [go_sem, zA, zB, zC, zD, zE, zF, zG, reduceCtorEq, zH, zI, zJ, zK, zL, lA, lB, lC, lD, Nat.zero_add]) <;> rfl, ?_⟩)) ?_ ?_ ?_
        · simp [Is]
        · intro k s x hlt hx hx' hb hok
          simp only [go_sem, zA, zB, zC, zD, zE, zF, zG, reduceCtorEq, zH, zI, zJ, zK, zL]
          have hix := ih x (List.mem_of_getElem? hx)
          have hat := all_takeP (p := treeP) hx
          cases s
          ·
            repeat' (first | (simp only [go_sem, zA, zB, zC, zD, zE, zF, zG, reduceCtorEq, zH, zI, zJ, zK, zL, encP_eq g, lB, hb]; all_goals fail_if_success guard_target =ₛ False) | (with_reducible first | ((first | refine yA rfl ?_ | refine yB rfl ?_ | refine yS ?_ | refine yT (by kernel_rfl) ?_ | refine yC rfl ?_ | refine yD rfl ?_ | refine yE rfl ?_ | refine yF rfl ?_ | refine yG rfl ?_ | refine yH rfl ?_); intro K hK) | (apply hK; clear hK K) | refine yU ?_ | (refine yV (by with_unfolding_all rfl) ?_ ?_ <;> intro h <;> (try simp only [zM, zN] at h) <;> try exact absurd h (by decide)) | refine yW ?_ | refine yX ?_ | refine yY ?_ | (refine ⟨fun h => ?_, fun h => ?_⟩ <;> (try simp only [zM, zN] at h) <;> try simp only [h]) | refine yZ mixed (by kernel_rfl) fun K hK => ?_ | refine ⟨(by kernel_rfl : depB _ _ _ = true), ?_⟩ | refine Or.inl ?_) | (clear hK K))
            all_goals (rw [wrap_succ hlt hlen1])
            all_goals (refine ⟨false, ?_, (by refine xG [] ?_ ?_ rfl rfl rfl <;> repeat first | exact trivial | refine ⟨rfl, ?_⟩ | refine ⟨by (simp only [go_sem, zA, zB, zC, zD, zE, zF, zG, reduceCtorEq, zH, zI, zJ, zK, zL, lA, lB, lC, lD, Nat.zero_add]) <;> rfl, ?_⟩)⟩)
            all_goals (show false = _; rw [hat, ← Bool.and_assoc, ← show false = _ from hok]; rfl)
          ·
            repeat' (first | (simp only [go_sem, zA, zB, zC, zD, zE, zF, zG, reduceCtorEq, zH, zI, zJ, zK, zL, encP_eq g, lB, hb]; all_goals fail_if_success guard_target =ₛ False) | (with_reducible first | ((first | refine yA rfl ?_ | refine yB rfl ?_ | refine yS ?_ | refine yT (by kernel_rfl) ?_ | refine yC rfl ?_ | refine yD rfl ?_ | refine yE rfl ?_ | refine yF rfl ?_ | refine yG rfl ?_ | refine yH rfl ?_); intro K hK) | (apply hK; clear hK K) | refine yU ?_ | (refine yV (by with_unfolding_all rfl) ?_ ?_ <;> intro h <;> (try simp only [zM, zN] at h) <;> try exact absurd h (by decide)) | refine yW ?_ | refine yX ?_ | refine yY ?_ | (refine ⟨fun h => ?_, fun h => ?_⟩ <;> (try simp only [zM, zN] at h) <;> try simp only [h]) | refine ⟨_, hix, ?_⟩ | refine ⟨by omega, encP x, hx', ?_⟩ | refine yZ mixed (by kernel_rfl) fun K hK => ?_ | refine ⟨(by kernel_rfl : depB _ _ _ = true), ?_⟩ | refine Or.inl ?_) | (clear hK K))
            all_goals (rw [wrap_succ hlt hlen1])
            all_goals (refine ⟨treeP x, ?_, (by refine xG [] ?_ ?_ rfl rfl rfl <;> repeat first | exact trivial | refine ⟨rfl, ?_⟩ | refine ⟨by (simp only [go_sem, zA, zB, zC, zD, zE, zF, zG, reduceCtorEq, zH, zI, zJ, zK, zL, lA, lB, lC, lD, Nat.zero_add]) <;> rfl, ?_⟩)⟩)
            all_goals (show treeP x = _; rw [hat, ← Bool.and_assoc, ← show true = _ from hok]; rfl)
        · intro s hb hok
          simp only [go_sem, zA, zB, zC, zD, zE, zF, zG, reduceCtorEq, zH, zI, zJ, zK, zL]
          rw [Is, lK] at hok
          repeat' (first | (simp only [go_sem, zA, zB, zC, zD, zE, zF, zG, reduceCtorEq, zH, zI, zJ, zK, zL, encP_eq g, lB, hb]; all_goals fail_if_success guard_target =ₛ False) | (with_reducible first | ((first | refine yA rfl ?_ | refine yB rfl ?_ | refine yS ?_ | refine yT (by kernel_rfl) ?_ | refine yC rfl ?_ | refine yD rfl ?_ | refine yE rfl ?_ | refine yF rfl ?_ | refine yG rfl ?_ | refine yH rfl ?_); intro K hK) | (apply hK; clear hK K) | refine yU ?_ | (refine yV (by with_unfolding_all rfl) ?_ ?_ <;> intro h <;> (try simp only [zM, zN] at h) <;> try exact absurd h (by decide)) | refine yW ?_ | refine yX ?_ | refine yY ?_ | (refine ⟨fun h => ?_, fun h => ?_⟩ <;> (try simp only [zM, zN] at h) <;> try simp only [h]) | refine yZ mixed (by kernel_rfl) fun K hK => ?_ | refine ⟨(by kernel_rfl : depB _ _ _ = true), ?_⟩ | refine Or.inl ?_) | (clear hK K))
          all_goals (refine fin0 ?_; rw [htr, show vP g = b from hvb, show s = _ from hok])
theorem goodP_o (g : Pat) (ih : ∀ k ∈ g.kids, PC zP 84 [Pt k] (Bo (treeP k))) (g1 : decide (g.kind = 1) = false) (g2 : decide (g.kind = 2) = false) (g3 : decide (g.kind = 3) = false) (g4 : decide (g.kind = 4) = false) (g5 : decide (g.kind = 5) = false) (g6 : decide (g.kind = 6) = false) (g7 : decide (g.kind = 7) = false) (g8 : decide (g.kind = 8) = false) (g9 : decide (g.kind = 9) = false) (g10 : decide (g.kind = 10) = false) : PC zP 84 [Pt g] (Bo (treeP g)) := by
  have htr := treeP_eq g
  have hz0 : decide ((0 : Int) < (g.kids.length : Int)) = !decide ((g.kids.length : Int) = 0) := by rw [← Bool.coe_iff_coe]; simp only [decide_eq_true_eq, Bool.not_eq_true', decide_eq_false_iff_not]; omega
  refine PCB.of_body Tryz.func84 rfl (by decide) Tryz.ntmps84 Tryz.results84 rfl rfl rfl ?_ rfl rfl
  repeat' (first | (with_reducible refine AWP.join (id := 6) (fun b : Bool => [(5, Bo b)]) (fun _ => []) [1, 3] [1] (fun b => Is (vP g) b) ?_ ?_) | (simp only [go_sem, zA, zB, zC, zD, zE, zF, zG, reduceCtorEq, zH, zI, zJ, zK, zL, encP_eq g, g1, g2, g3, g4, g5, g6, g7, g8, g9, g10, lB]; all_goals fail_if_success guard_target =ₛ False) | (with_reducible first | ((first | refine yA rfl ?_ | refine yB rfl ?_ | refine yS ?_ | refine yT (by kernel_rfl) ?_ | refine yC rfl ?_ | refine yD rfl ?_ | refine yE rfl ?_ | refine yF rfl ?_ | refine yG rfl ?_ | refine yH rfl ?_); intro K hK) | (apply hK; clear hK K) | refine yU ?_ | (refine yV (by with_unfolding_all rfl) ?_ ?_ <;> intro h <;> (try simp only [zM, zN] at h) <;> try exact absurd h (by decide)) | refine yW ?_ | refine yX ?_ | refine yY ?_ | (refine ⟨fun h => ?_, fun h => ?_⟩ <;> (try simp only [zM, zN] at h) <;> try simp only [h]) | refine yZ mixed (by kernel_rfl) fun K hK => ?_ | refine ⟨(by kernel_rfl : depB _ _ _ = true), ?_⟩ | refine Or.inl ?_) | (clear hK K))
  any_goals (refine fin0 ?_; rw [htr]; simp only [vP, badP, bodyP, numP, textP, kidsP, keysP, g1, g2, g3, g4, g5, g6, g7, g8, g9, g10, hz0, Int.reduceEq, Int.reduceLE, *, zb, Bool.not_not, cond_true, cond_false, decide_true, decide_false]; done)
  any_goals (refine ⟨_, ?_, (by refine xG [] ?_ ?_ rfl rfl rfl <;> repeat first | exact trivial | refine ⟨rfl, ?_⟩ | refine ⟨by (simp only [go_sem, zA, zB, zC, zD, zE, zF, zG, reduceCtorEq, zH, zI, zJ, zK, zL, lA, lB, lC, lD, Nat.zero_add]) <;> rfl, ?_⟩)⟩; unfold Is; simp only [vP, badP, bodyP, numP, textP, kidsP, keysP, g1, g2, g3, g4, g5, g6, g7, g8, g9, g10, hz0, Int.reduceEq, Int.reduceLE, *, zb, Bool.not_not, cond_true, cond_false, decide_true, decide_false]; done)
  intro b hvb
  try simp only [go_sem, zA, zB, zC, zD, zE, zF, zG, reduceCtorEq, zH, zI, zJ, zK, zL]
  repeat' (first | (simp only [go_sem, zA, zB, zC, zD, zE, zF, zG, reduceCtorEq, zH, zI, zJ, zK, zL, encP_eq g, lB]; all_goals fail_if_success guard_target =ₛ False) | (with_reducible first | ((first | refine yA rfl ?_ | refine yB rfl ?_ | refine yS ?_ | refine yT (by kernel_rfl) ?_ | refine yC rfl ?_ | refine yD rfl ?_ | refine yE rfl ?_ | refine yF rfl ?_ | refine yG rfl ?_ | refine yH rfl ?_); intro K hK) | (apply hK; clear hK K) | refine yU ?_ | (refine yV (by with_unfolding_all rfl) ?_ ?_ <;> intro h <;> (try simp only [zM, zN] at h) <;> try exact absurd h (by decide)) | refine yW ?_ | refine yX ?_ | refine yY ?_ | (refine ⟨fun h => ?_, fun h => ?_⟩ <;> (try simp only [zM, zN] at h) <;> try simp only [h]) | refine yZ mixed (by kernel_rfl) fun K hK => ?_ | refine ⟨(by kernel_rfl : depB _ _ _ = true), ?_⟩ | refine Or.inl ?_) | (clear hK K))
  refine xE 1 3 rfl rfl fun hlen1 => ?_
  (try rw [lB] at hlen1)
  refine xC (S := Bool) (g.kids) encP (fun k s => (7, I .i64 (k : Nat)) :: [(5, Bo s)]) (fun k s => []) [1, 3] [1] (fun k s => Is s (b && (g.kids.take k).all treeP)) (b) (by simp only [go_sem, zA, zB, zC, zD, zE, zF, zG, reduceCtorEq, zH, zI, zJ, zK, zL, encP_eq]; exact (by refine xG [] ?_ ?_ rfl rfl rfl <;> repeat first | exact trivial | refine ⟨rfl, ?_⟩ | refine ⟨by (simp only [go_sem, zA, zB, zC, zD, zE, zF, zG, reduceCtorEq, zH, zI, zJ, zK, zL, lA, lB, lC, lD, Nat.zero_add]) <;> rfl, ?_⟩)) ?_ ?_ ?_
  · simp [Is]
  · intro k s x hlt hx hx' hb hok
    simp only [go_sem, zA, zB, zC, zD, zE, zF, zG, reduceCtorEq, zH, zI, zJ, zK, zL]
    have hix := ih x (List.mem_of_getElem? hx)
    have hat := all_takeP (p := treeP) hx
    cases s
    ·
      repeat' (first | (simp only [go_sem, zA, zB, zC, zD, zE, zF, zG, reduceCtorEq, zH, zI, zJ, zK, zL, encP_eq g, lB, hb]; all_goals fail_if_success guard_target =ₛ False) | (with_reducible first | ((first | refine yA rfl ?_ | refine yB rfl ?_ | refine yS ?_ | refine yT (by kernel_rfl) ?_ | refine yC rfl ?_ | refine yD rfl ?_ | refine yE rfl ?_ | refine yF rfl ?_ | refine yG rfl ?_ | refine yH rfl ?_); intro K hK) | (apply hK; clear hK K) | refine yU ?_ | (refine yV (by with_unfolding_all rfl) ?_ ?_ <;> intro h <;> (try simp only [zM, zN] at h) <;> try exact absurd h (by decide)) | refine yW ?_ | refine yX ?_ | refine yY ?_ | (refine ⟨fun h => ?_, fun h => ?_⟩ <;> (try simp only [zM, zN] at h) <;> try simp only [h]) | refine yZ mixed (by kernel_rfl) fun K hK => ?_ | refine ⟨(by kernel_rfl : depB _ _ _ = true), ?_⟩ | refine Or.inl ?_) | (clear hK K))
      all_goals (rw [wrap_succ hlt hlen1])
      all_goals (refine ⟨false, ?_, (by refine xG [] ?_ ?_ rfl rfl rfl <;> repeat first | exact trivial | refine ⟨rfl, ?_⟩ | refine ⟨by (simp only [go_sem, zA, zB, zC, zD, zE, zF, zG, reduceCtorEq, zH, zI, zJ, zK, zL, lA, lB, lC, lD, Nat.zero_add]) <;> rfl, ?_⟩)⟩)
      all_goals (show false = _; rw [hat, ← Bool.and_assoc, ← show false = _ from hok]; rfl)
    ·
      repeat' (first | (simp only [go_sem, zA, zB, zC, zD, zE, zF, zG, reduceCtorEq, zH, zI, zJ, zK, zL, encP_eq g, lB, hb]; all_goals fail_if_success guard_target =ₛ False) | (with_reducible first | ((first | refine yA rfl ?_ | refine yB rfl ?_ | refine yS ?_ | refine yT (by kernel_rfl) ?_ | refine yC rfl ?_ | refine yD rfl ?_ | refine yE rfl ?_ | refine yF rfl ?_ | refine yG rfl ?_ | refine yH rfl ?_); intro K hK) | (apply hK; clear hK K) | refine yU ?_ | (refine yV (by with_unfolding_all rfl) ?_ ?_ <;> intro h <;> (try simp only [zM, zN] at h) <;> try exact absurd h (by decide)) | refine yW ?_ | refine yX ?_ | refine yY ?_ | (refine ⟨fun h => ?_, fun h => ?_⟩ <;> (try simp only [zM, zN] at h) <;> try simp only [h]) | refine ⟨_, hix, ?_⟩ | refine ⟨by omega, encP x, hx', ?_⟩ | refine yZ mixed (by kernel_rfl) fun K hK => ?_ | refine ⟨(by kernel_rfl : depB _ _ _ = true), ?_⟩ | refine Or.inl ?_) | (clear hK K))
      all_goals (rw [wrap_succ hlt hlen1])
      all_goals (refine ⟨treeP x, ?_, (by refine xG [] ?_ ?_ rfl rfl rfl <;> repeat first | exact trivial | refine ⟨rfl, ?_⟩ | refine ⟨by (simp only [go_sem, zA, zB, zC, zD, zE, zF, zG, reduceCtorEq, zH, zI, zJ, zK, zL, lA, lB, lC, lD, Nat.zero_add]) <;> rfl, ?_⟩)⟩)
      all_goals (show treeP x = _; rw [hat, ← Bool.and_assoc, ← show true = _ from hok]; rfl)
  · intro s hb hok
    simp only [go_sem, zA, zB, zC, zD, zE, zF, zG, reduceCtorEq, zH, zI, zJ, zK, zL]
    rw [Is, lK] at hok
    repeat' (first | (simp only [go_sem, zA, zB, zC, zD, zE, zF, zG, reduceCtorEq, zH, zI, zJ, zK, zL, encP_eq g, lB, hb]; all_goals fail_if_success guard_target =ₛ False) | (with_reducible first | ((first | refine yA rfl ?_ | refine yB rfl ?_ | refine yS ?_ | refine yT (by kernel_rfl) ?_ | refine yC rfl ?_ | refine yD rfl ?_ | refine yE rfl ?_ | refine yF rfl ?_ | refine yG rfl ?_ | refine yH rfl ?_); intro K hK) | (apply hK; clear hK K) | refine yU ?_ | (refine yV (by with_unfolding_all rfl) ?_ ?_ <;> intro h <;> (try simp only [zM, zN] at h) <;> try exact absurd h (by decide)) | refine yW ?_ | refine yX ?_ | refine yY ?_ | (refine ⟨fun h => ?_, fun h => ?_⟩ <;> (try simp only [zM, zN] at h) <;> try simp only [h]) | refine yZ mixed (by kernel_rfl) fun K hK => ?_ | refine ⟨(by kernel_rfl : depB _ _ _ = true), ?_⟩ | refine Or.inl ?_) | (clear hK K))
    all_goals (refine fin0 ?_; rw [htr, show vP g = b from hvb, show s = _ from hok])
end Go.Proofs.YteobojeemflggaaGreat
set_option linter.unusedSimpArgs false
set_option linter.unusedVariables false
set_option maxRecDepth 20000
set_option maxHeartbeats 64000000
namespace Go.Proofs.YteobojeemflggaaGreat
open Go Go.Sx
theorem goodPattern_c (g : Pat) : PC zP 84 [Pt g] (Bo (treeP g)) := by
  have ih : ∀ k ∈ g.kids, PC zP 84 [Pt k] (Bo (treeP k)) := fun k hk => goodPattern_c k
  rcases pkinds g.kind with hk | hk | hk | hk | hk | hk | hk | hk | hk | hk | ⟨g1, g2, g3, g4, g5, g6, g7, g8, g9, g10⟩
  all_goals first
    | exact goodP_a g ih (by omega)
    | exact goodP_b g ih (by omega)
    | exact goodP_9 g ih (by omega)
    | exact goodP_o g ih g1 g2 g3 g4 g5 g6 g7 g8 g9 g10
termination_by cntP g
decreasing_by all_goals exact cntP_kid hk
def intVal (n : Int) : Val := ⟨1, n, [], [], [], [], []⟩
def strVal (s : List UInt8) : Val := ⟨2, 0, s, [], [], [], []⟩
def atomVal (s : List UInt8) : Val := ⟨3, 0, s, [], [], [], []⟩
def pidVal (n : Int) : Val := ⟨4, n, [], [], [], [], []⟩
def nilVal : Val := ⟨5, 0, [], [], [], [], []⟩
def tupVal (l : List Val) : Val := ⟨6, 0, [], l, [], [], []⟩
def consVal (a b : Val) : Val := ⟨7, 0, [], [a, b], [], [], []⟩
abbrev Vt (v : Val) : T := .st (encVal v)
theorem refInt_c (n : Int) : PC zP 25 [I .i64 n] (Vt (intVal n)) := by
  refine PCB.of_body Tryz.func25 rfl (by decide) Tryz.ntmps25 Tryz.results25 rfl rfl rfl ?_ rfl rfl
  repeat' (first | (simp only [go_sem, zA, zB, zC, zD, zE, zF, zG, reduceCtorEq, zH, zI, zJ, zK, zL]; all_goals fail_if_success guard_target =ₛ False) | (with_reducible first | ((first | refine yA rfl ?_ | refine yS ?_ | refine yT (by kernel_rfl) ?_); intro K hK) | (apply hK; clear hK K) | refine yU ?_ | (refine yV (by with_unfolding_all rfl) ?_ ?_ <;> intro h <;> (try simp only [zM, zN] at h) <;> try exact absurd h (by decide)) | refine yW ?_ | refine yX ?_ | refine yY ?_ | refine Or.inl ?_) | (clear hK K))
  all_goals (first | exact fun _ h => (by cases h) | refine fin0 ?_)
  all_goals (rw [Vt, encVal_eq]; rfl)
theorem refString_c (s : List UInt8) : PC zP 45 [S s] (Vt (strVal s)) := by
  refine PCB.of_body Tryz.func45 rfl (by decide) Tryz.ntmps45 Tryz.results45 rfl rfl rfl ?_ rfl rfl
  repeat' (first | (simp only [go_sem, zA, zB, zC, zD, zE, zF, zG, reduceCtorEq, zH, zI, zJ, zK, zL]; all_goals fail_if_success guard_target =ₛ False) | (with_reducible first | ((first | refine yA rfl ?_ | refine yS ?_ | refine yT (by kernel_rfl) ?_); intro K hK) | (apply hK; clear hK K) | refine yU ?_ | (refine yV (by with_unfolding_all rfl) ?_ ?_ <;> intro h <;> (try simp only [zM, zN] at h) <;> try exact absurd h (by decide)) | refine yW ?_ | refine yX ?_ | refine yY ?_ | refine Or.inl ?_) | (clear hK K))
  all_goals (first | exact fun _ h => (by cases h) | refine fin0 ?_)
  all_goals (rw [Vt, encVal_eq]; rfl)
theorem refAtomV_c (s : List UInt8) : PC zP 46 [S s] (Vt (atomVal s)) := by
  refine PCB.of_body Tryz.func46 rfl (by decide) Tryz.ntmps46 Tryz.results46 rfl rfl rfl ?_ rfl rfl
  repeat' (first | (simp only [go_sem, zA, zB, zC, zD, zE, zF, zG, reduceCtorEq, zH, zI, zJ, zK, zL]; all_goals fail_if_success guard_target =ₛ False) | (with_reducible first | ((first | refine yA rfl ?_ | refine yS ?_ | refine yT (by kernel_rfl) ?_); intro K hK) | (apply hK; clear hK K) | refine yU ?_ | (refine yV (by with_unfolding_all rfl) ?_ ?_ <;> intro h <;> (try simp only [zM, zN] at h) <;> try exact absurd h (by decide)) | refine yW ?_ | refine yX ?_ | refine yY ?_ | refine Or.inl ?_) | (clear hK K))
  all_goals (first | exact fun _ h => (by cases h) | refine fin0 ?_)
  all_goals (rw [Vt, encVal_eq]; rfl)
theorem refPid_c (n : Int) : PC zP 93 [I .i64 n] (Vt (pidVal n)) := by
  refine PCB.of_body Tryz.func93 rfl (by decide) Tryz.ntmps93 Tryz.results93 rfl rfl rfl ?_ rfl rfl
  repeat' (first | (simp only [go_sem, zA, zB, zC, zD, zE, zF, zG, reduceCtorEq, zH, zI, zJ, zK, zL]; all_goals fail_if_success guard_target =ₛ False) | (with_reducible first | ((first | refine yA rfl ?_ | refine yS ?_ | refine yT (by kernel_rfl) ?_); intro K hK) | (apply hK; clear hK K) | refine yU ?_ | (refine yV (by with_unfolding_all rfl) ?_ ?_ <;> intro h <;> (try simp only [zM, zN] at h) <;> try exact absurd h (by decide)) | refine yW ?_ | refine yX ?_ | refine yY ?_ | refine Or.inl ?_) | (clear hK K))
  all_goals (first | exact fun _ h => (by cases h) | refine fin0 ?_)
  all_goals (rw [Vt, encVal_eq]; rfl)
theorem refNil_c : PC zP 26 [] (Vt nilVal) := by
  refine PCB.of_body Tryz.func26 rfl (by decide) Tryz.ntmps26 Tryz.results26 rfl rfl rfl ?_ rfl rfl
  repeat' (first | (simp only [go_sem, zA, zB, zC, zD, zE, zF, zG, reduceCtorEq, zH, zI, zJ, zK, zL]; all_goals fail_if_success guard_target =ₛ False) | (with_reducible first | ((first | refine yA rfl ?_ | refine yS ?_ | refine yT (by kernel_rfl) ?_); intro K hK) | (apply hK; clear hK K) | refine yU ?_ | (refine yV (by with_unfolding_all rfl) ?_ ?_ <;> intro h <;> (try simp only [zM, zN] at h) <;> try exact absurd h (by decide)) | refine yW ?_ | refine yX ?_ | refine yY ?_ | refine Or.inl ?_) | (clear hK K))
  all_goals (first | exact fun _ h => (by cases h) | refine fin0 ?_)
  all_goals (rw [Vt, encVal_eq]; rfl)
theorem copies_n (l : List Val) (hl : l.length ≤ 100000000) : PCN zP 85 [.one (.dat (.sl 7 (l.map encVal)))] (.one (.own 0 l.length)) (.row 7 (l.map encVal)) := by
  refine PCN.of_body 4 Tryz.func85 rfl (by decide) Tryz.ntmps85 Tryz.results85 rfl rfl ?_
  refine AWP.ghQ ?_
  repeat' (first | (simp only [go_sem, zA, zB, zC, zD, zE, zF, zG, reduceCtorEq, zH, zI, zJ, zK, zL, lB]; all_goals fail_if_success guard_target =ₛ False) | (with_reducible first | ((first | refine yA rfl ?_ | refine yS ?_ | refine yT (by kernel_rfl) ?_); intro K hK) | (apply hK; clear hK K) | refine yU ?_ | (refine yV (by with_unfolding_all rfl) ?_ ?_ <;> intro h <;> (try simp only [zM, zN] at h) <;> try exact absurd h (by decide)) | refine yW ?_ | refine yX ?_ | refine yY ?_ | refine ⟨(by omega : _ ≤ _), ?_⟩ | refine Or.inl ?_) | (clear hK K))
  refine ⟨_, Gh.refl _, ?_⟩
  simp only [go_sem, zA, zB, zC, zD, zE, zF, zG, reduceCtorEq, zH, zI, zJ, zK, zL, lB]
  first | exact ⟨rfl, fun x hx => hx⟩ | exact fun x hx => hx
theorem copies_c (l : List Val) (hl : l.length ≤ 100000000) : PC zP 85 [.one (.dat (.sl 7 (l.map encVal)))] (.one (.dat (.sl 7 (l.map encVal)))) := by
  refine PCB.of_body Tryz.func85 rfl (by decide) Tryz.ntmps85 Tryz.results85 rfl rfl rfl ?_ rfl rfl
  refine AWP.ghQ ?_
  repeat' (first | (simp only [go_sem, zA, zB, zC, zD, zE, zF, zG, reduceCtorEq, zH, zI, zJ, zK, zL, lB]; all_goals fail_if_success guard_target =ₛ False) | (with_reducible first | ((first | refine yA rfl ?_ | refine yS ?_ | refine yT (by kernel_rfl) ?_); intro K hK) | (apply hK; clear hK K) | refine yU ?_ | (refine yV (by with_unfolding_all rfl) ?_ ?_ <;> intro h <;> (try simp only [zM, zN] at h) <;> try exact absurd h (by decide)) | refine yW ?_ | refine yX ?_ | refine yY ?_ | refine ⟨(by omega : _ ≤ _), ?_⟩ | refine Or.inl ?_) | (clear hK K))
  refine ⟨_, Gh.freeze 4 rfl rfl (by simp only [go_sem, zA, zB, zC, zD, zE, zF, zG, reduceCtorEq, zH, zI, zJ, zK, zL, lB]) (by simp only [go_sem, zA, zB, zC, zD, zE, zF, zG, reduceCtorEq, zH, zI, zJ, zK, zL, lB]), ?_⟩
  simp only [go_sem, zA, zB, zC, zD, zE, zF, zG, reduceCtorEq, zH, zI, zJ, zK, zL, lB]
  all_goals (first | exact fun _ h => (by cases h) | refine fin0 ?_)
  all_goals rfl
theorem refTuple_c (l : List Val) (hl : l.length ≤ 100000000) : PC zP 47 [.one (.dat (.sl 7 (l.map encVal)))] (Vt (tupVal l)) := by
  have h := copies_c l hl
  refine PCB.of_body Tryz.func47 rfl (by decide) Tryz.ntmps47 Tryz.results47 rfl rfl rfl ?_ rfl rfl
  repeat' (first | (simp only [go_sem, zA, zB, zC, zD, zE, zF, zG, reduceCtorEq, zH, zI, zJ, zK, zL]; all_goals fail_if_success guard_target =ₛ False) | (with_reducible first | ((first | refine yA rfl ?_ | refine yS ?_ | refine yT (by kernel_rfl) ?_); intro K hK) | (apply hK; clear hK K) | refine yU ?_ | (refine yV (by with_unfolding_all rfl) ?_ ?_ <;> intro h <;> (try simp only [zM, zN] at h) <;> try exact absurd h (by decide)) | refine yW ?_ | refine yX ?_ | refine yY ?_ | refine ⟨_, h, ?_⟩ | refine Or.inl ?_) | (clear hK K))
  all_goals (first | exact fun _ h => (by cases h) | refine fin0 ?_)
  all_goals (rw [Vt, encVal_eq]; rfl)
theorem refCons_c (a b : Val) : PC zP 48 [Vt a, Vt b] (Vt (consVal a b)) := by
  refine PCB.of_body Tryz.func48 rfl (by decide) Tryz.ntmps48 Tryz.results48 rfl rfl rfl ?_ rfl rfl
  repeat' (first | (simp only [go_sem, zA, zB, zC, zD, zE, zF, zG, reduceCtorEq, zH, zI, zJ, zK, zL]; all_goals fail_if_success guard_target =ₛ False) | (with_reducible first | ((first | refine yA rfl ?_ | refine yS ?_ | refine yT (by kernel_rfl) ?_); intro K hK) | (apply hK; clear hK K) | refine yU ?_ | (refine yV (by with_unfolding_all rfl) ?_ ?_ <;> intro h <;> (try simp only [zM, zN] at h) <;> try exact absurd h (by decide)) | refine yW ?_ | refine yX ?_ | refine yY ?_ | refine Or.inl ?_) | (clear hK K))
  all_goals (first | exact fun _ h => (by cases h) | refine fin0 ?_)
  all_goals (rw [Vt, encVal_eq (consVal a b)]; rfl)
def leafK (k : Int) (s : Src) : Val × Src :=
  bif decide (k = 0) then (intVal (numV s), nextS s 10) else
  bif decide (k = 1) then (atomVal (atomV s), nextS s 4) else
  bif decide (k = 2) then (strVal (wordV s), nextS s 4) else
  bif decide (k = 3) then (pidVal (nextV s 3), nextS s 3) else
  bif decide (k = 4) then (nilVal, s) else (tupVal [], s)
def leafV (s : Src) : Val × Src := leafK (nextV s 6) (nextS s 6)
theorem tup_nil : PC zP 47 [.one (.dat (.sl 7 []))] (Vt (tupVal [])) := by
  have h := refTuple_c [] (by simp)
  rw [List.map_nil] at h
  exact h
theorem leaf_c (s : Src) (hs : s.ok) : PCB zP 55 [Sp pin] [(pin, srcB s)] (Vt (leafV s).1) [(pin, srcB (leafV s).2)] := by
  have hv := nextV_in s (n := 6) (by omega)
  have hk : nextV s 6 = 0 ∨ nextV s 6 = 1 ∨ nextV s 6 = 2 ∨ nextV s 6 = 3 ∨ nextV s 6 = 4 ∨ nextV s 6 = 5 := by omega
  have hs1 := ok_next hs 6
  rcases hk with hk | hk | hk | hk | hk | hk
  all_goals (rw [leafV, hk])
  all_goals
    refine PCB.of_body Tryz.func55 rfl (by decide) Tryz.ntmps55 Tryz.results55 rfl rfl rfl ?_ rfl rfl
    repeat' (first | (simp only [go_sem, zA, zB, zC, zD, zE, zF, zG, reduceCtorEq, zH, zI, zJ, zK, zL, pin, hk]; all_goals fail_if_success guard_target =ₛ False) | (with_reducible first | ((first | refine yA rfl ?_ | refine yS ?_ | refine yT (by kernel_rfl) ?_); intro K hK) | (apply hK; clear hK K) | refine yU ?_ | (refine yV (by with_unfolding_all rfl) ?_ ?_ <;> intro h <;> (try simp only [zM, zN] at h) <;> try exact absurd h (by decide)) | refine yW ?_ | refine yX ?_ | refine yY ?_ | refine ⟨_, refInt_c _, ?_⟩ | refine ⟨_, refAtomV_c _, ?_⟩ | refine ⟨_, refString_c _, ?_⟩ | refine ⟨_, refPid_c _, ?_⟩ | refine ⟨_, refNil_c, ?_⟩ | refine ⟨_, tup_nil, ?_⟩) | (refine ⟨1000000, _, _, _, next_k 1000000 _ (by repeat (first | with_reducible exact hs | with_reducible refine ok_next ?_ _)) _ (by omega), rfl, ?_⟩) | (refine ⟨1000000, _, _, _, number_k 1000000 _ hs1, rfl, ?_⟩) | (refine ⟨1000000, _, _, _, atomName_k 1000000 _ hs1, rfl, ?_⟩) | (refine ⟨1000000, _, _, _, word_k 1000000 _ hs1, rfl, ?_⟩) | (with_reducible first | refine Or.inl ?_) | (clear hK K))
  all_goals (first | refine ⟨rfl, fun x hx => ?_⟩ | refine fun x hx => ?_)
  all_goals (simp only [List.mem_singleton] at hx; subst hx; simp [leafK, pin])
theorem leaf_k (k : Nat) (s : Src) (hs : s.ok) : PCBk zP 55 [Sp k] k (srcB s) (Vt (leafV s).1) (srcB (leafV s).2) := PCBk.mk k (leaf_c s hs)
theorem ok_leafK (k : Int) {s : Src} (h : s.ok) : (leafK k s).2.ok := by
  unfold leafK
  cases decide (k = 0) <;> cases decide (k = 1) <;> cases decide (k = 2) <;> cases decide (k = 3) <;> cases decide (k = 4) <;> first | exact h | exact ok_next h _
theorem ok_leaf {s : Src} (h : s.ok) : (leafV s).2.ok := ok_leafK _ (ok_next h 6)
def labL : List (List UInt8) := [[65], [66], [67]]
def labelV (s : Src) : List UInt8 := labL.getD (nextV s 3).toNat []
theorem label_c (s : Src) (hs : s.ok) : PCB zP 59 [Sp pin] [(pin, srcB s)] (S (labelV s)) [(pin, srcB (nextS s 3))] := by
  refine PCB.of_body Tryz.func59 rfl (by decide) Tryz.ntmps59 Tryz.results59 rfl rfl rfl ?_ rfl rfl
  have hv := nextV_in s (n := 3) (by omega)
  repeat' (first | (simp only [go_sem, zA, zB, zC, zD, zE, zF, zG, reduceCtorEq, zH, zI, zJ, zK, zL, pin]; all_goals fail_if_success guard_target =ₛ False) | (with_reducible first | ((first | refine yA rfl ?_ | refine yS ?_ | refine yT (by kernel_rfl) ?_); intro K hK) | (apply hK; clear hK K) | refine yU ?_ | (refine yV (by with_unfolding_all rfl) ?_ ?_ <;> intro h <;> (try simp only [zM, zN] at h) <;> try exact absurd h (by decide)) | refine yW ?_ | refine yX ?_ | refine yY ?_) | (refine ⟨1000000, _, _, _, next_k 1000000 s hs 3 (by omega), rfl, ?_⟩) | ( refine ⟨hv.1, [.str (labelV s)], lit_get (fun x => [C.str x]) labL [] hv, ?_⟩) | (with_reducible first | refine Or.inl ?_) | (clear hK K))
  all_goals exact fun x hx => hx
theorem label_k (k : Nat) (s : Src) (hs : s.ok) : PCBk zP 59 [Sp k] k (srcB s) (S (labelV s)) (srcB (nextS s 3)) := PCBk.mk k (label_c s hs)
def tw {α : Type} (p : α → Bool) : List α → Nat
  | [] => 0
  | x :: l => bif p x then 1 + tw p l else 0
theorem tw_step {α : Type} {p : α → Bool} {l : List α} {k : Nat} {x : α} (hx : l[k]? = some x) : tw p (l.drop k) = bif p x then 1 + tw p (l.drop (k + 1)) else 0 := by
  obtain ⟨h1, e1⟩ := List.getElem?_eq_some_iff.1 hx
  rw [List.drop_eq_getElem_cons h1, e1]; rfl
theorem tw_end {α : Type} {p : α → Bool} {l : List α} : tw p (l.drop l.length) = 0 := by rw [List.drop_length]; rfl
def putAt {α : Type} (k : Nat) (x : α) (l : List α) : List α := l.take k ++ [x] ++ l.drop k
theorem putAt_len {α : Type} (k : Nat) (x : α) (l : List α) : (putAt k x l).length = l.length + 1 := by
  unfold putAt; simp; omega
def insS (s : List (List UInt8)) (x : List UInt8) : List (List UInt8) :=
  bif decide (s[tw (fun y => Op.bytesLess y x) s]? = some x) then s else putAt (tw (fun y => Op.bytesLess y x) s) x s
def sortedV (l : List (List UInt8)) : List (List UInt8) := l.foldl insS []
theorem foldl_take {α β : Type} {f : β → α → β} {b : β} {l : List α} {k : Nat} {x : α} (hx : l[k]? = some x) : (l.take (k + 1)).foldl f b = f ((l.take k).foldl f b) x := by
  rw [List.take_add_one, hx]; simp
theorem insS_len (s : List (List UInt8)) (x : List UInt8) : (insS s x).length ≤ s.length + 1 := by
  unfold insS; cases decide (s[tw (fun y => Op.bytesLess y x) s]? = some x) <;> simp [putAt_len]
theorem take_map' {α : Type} (f : α → List C) (l : List α) (k : Nat) : List.take k (l.map f) = (l.take k).map f := by rw [List.map_take]
theorem drop_map' {α : Type} (f : α → List C) (l : List α) (k : Nat) : List.drop k (l.map f) = (l.drop k).map f := by rw [List.map_drop]
theorem str_put (s : List (List UInt8)) (k : Nat) (x : List UInt8) : (List.map encStr (s.take k) ++ [[C.str x]]) ++ List.map encStr (s.drop k) = (putAt k x s).map encStr := by
  unfold putAt; simp [encStr]
theorem str_end (s : List (List UInt8)) (x : List UInt8) : (List.map encStr s ++ [[C.str x]]) ++ List.map encStr (s.drop s.length) = (putAt s.length x s).map encStr := by
  unfold putAt; simp [encStr]
theorem sorted_c (l : List (List UInt8)) (hl : l.length ≤ 1000000) : PC zP 60 [.one (.dat (.sl 1 (l.map encStr)))] (.one (.dat (.sl 1 ((sortedV l).map encStr)))) := by
  refine PCB.of_body Tryz.func60 rfl (by decide) Tryz.ntmps60 Tryz.results60 rfl rfl rfl ?_ rfl rfl
  repeat' (first | (simp only [go_sem, zA, zB, zC, zD, zE, zF, zG, reduceCtorEq, zH, zI, zJ, zK, zL, lB]; all_goals fail_if_success guard_target =ₛ False) | (with_reducible first | ((first | refine yA rfl ?_ | refine yB rfl ?_ | refine yS ?_ | refine yT (by kernel_rfl) ?_ | refine yC rfl ?_ | refine yD rfl ?_ | refine yE rfl ?_ | refine yF rfl ?_ | refine yG rfl ?_ | refine yH rfl ?_); intro K hK) | (apply hK; clear hK K) | refine yU ?_ | (refine yV (by with_unfolding_all rfl) ?_ ?_ <;> intro h <;> (try simp only [zM, zN] at h) <;> try exact absurd h (by decide)) | refine yW ?_ | refine yX ?_ | refine yY ?_ | (refine ⟨fun h => ?_, fun h => ?_⟩ <;> (try simp only [zM, zN] at h) <;> try simp only [h]) | (refine xB (id := 10) 6 mixed (by kernel_rfl) fun K hK => ?_; simp only [lG, lH, lI, lJ]) | refine yZ mixed (by kernel_rfl) fun K hK => ?_ | refine ⟨(by kernel_rfl : depB _ _ _ = true), ?_⟩ | refine Or.inl ?_) | (clear hK K))
  refine AWP.gh (Gh.nilrow 3 900 rfl rfl rfl rfl) ?_
  refine AWP.gh (Gh.freeze 900 rfl rfl (by simp only [go_sem, zA, zB, zC, zD, zE, zF, zG, reduceCtorEq, zH, zI, zJ, zK, zL]) (by simp only [go_sem, zA, zB, zC, zD, zE, zF, zG, reduceCtorEq, zH, zI, zJ, zK, zL])) ?_
  simp only [go_sem, zA, zB, zC, zD, zE, zF, zG, reduceCtorEq, zH, zI, zJ, zK, zL]
  refine AWP.len 0 rfl fun hlen0 => ?_
  (try rw [lB] at hlen0)
  refine xC (S := List (List UInt8)) (l) encStr (fun k s => (4, I .i64 (k : Nat)) :: [(3, .one (.dat (.sl 1 (s.map encStr))))]) (fun k s => []) [0] [] (fun k s => Is s ((l.take k).foldl insS []) ∧ s.length ≤ k) ([]) (by simp only [go_sem, zA, zB, zC, zD, zE, zF, zG, reduceCtorEq, zH, zI, zJ, zK, zL]; exact (by refine xG [] ?_ ?_ rfl rfl rfl <;> repeat first | exact trivial | refine ⟨rfl, ?_⟩ | refine ⟨by (simp only [go_sem, zA, zB, zC, zD, zE, zF, zG, reduceCtorEq, zH, zI, zJ, zK, zL, lA, lB, lC, lD, Nat.zero_add]) <;> rfl, ?_⟩)) ?_ ?_ ?_
  · exact ⟨rfl, Nat.le_refl _⟩
  · intro k s x hlt hx hx' hb hok
    obtain ⟨hok, hsl⟩ := hok
    simp only [go_sem, zA, zB, zC, zD, zE, zF, zG, reduceCtorEq, zH, zI, zJ, zK, zL]
    repeat' (first | (simp only [go_sem, zA, zB, zC, zD, zE, zF, zG, reduceCtorEq, zH, zI, zJ, zK, zL, lB, hb]; all_goals fail_if_success guard_target =ₛ False) | (with_reducible first | ((first | refine yA rfl ?_ | refine yB rfl ?_ | refine yS ?_ | refine yT (by kernel_rfl) ?_ | refine yC rfl ?_ | refine yD rfl ?_ | refine yE rfl ?_ | refine yF rfl ?_ | refine yG rfl ?_ | refine yH rfl ?_); intro K hK) | (apply hK; clear hK K) | refine yU ?_ | (refine yV (by with_unfolding_all rfl) ?_ ?_ <;> intro h <;> (try simp only [zM, zN] at h) <;> try exact absurd h (by decide)) | refine yW ?_ | refine yX ?_ | refine yY ?_ | (refine ⟨fun h => ?_, fun h => ?_⟩ <;> (try simp only [zM, zN] at h) <;> try simp only [h]) | (refine xB (id := 10) 6 mixed (by kernel_rfl) fun K hK => ?_; simp only [lG, lH, lI, lJ]) | refine yZ mixed (by kernel_rfl) fun K hK => ?_ | refine ⟨(by kernel_rfl : depB _ _ _ = true), ?_⟩ | refine Or.inl ?_) | (clear hK K))
    refine AWP.loopF (X := Nat) (fun j => [(5, I .i64 j)]) (fun j => []) [0, 3, 4] [] (fun j => j ≤ s.length ∧ tw (fun y => Op.bytesLess y x) s = j + tw (fun y => Op.bytesLess y x) (s.drop j)) (fun j => s.length - j) (0) (by simp only [go_sem, zA, zB, zC, zD, zE, zF, zG, reduceCtorEq, zH, zI, zJ, zK, zL]; exact (by refine xG [] ?_ ?_ rfl rfl rfl <;> repeat first | exact trivial | refine ⟨rfl, ?_⟩ | refine ⟨by (simp only [go_sem, zA, zB, zC, zD, zE, zF, zG, reduceCtorEq, zH, zI, zJ, zK, zL, lA, lB, lC, lD, Nat.zero_add]) <;> rfl, ?_⟩)) ?_ ?_
    · exact ⟨Nat.zero_le _, by simp⟩
    rintro j ⟨hj, hp⟩
    simp only [go_sem, zA, zB, zC, zD, zE, zF, zG, reduceCtorEq, zH, zI, zJ, zK, zL]
    by_cases hjl : j < s.length
    · obtain ⟨y, hy, hy', hbj, _⟩ := at_lt (enc := encStr) hjl
      rw [tw_step hy] at hp
      cases hz : Op.bytesLess y x <;> simp only [hz, cond_true, cond_false, Nat.add_zero] at hp
      · cases hyx : decide (y = x)
        ·
          repeat' (first | (simp only [go_sem, zA, zB, zC, zD, zE, zF, zG, reduceCtorEq, zH, zI, zJ, zK, zL, lB, hbj, hb, hz, hyx, encStr, Int.toNat_natCast, lJ, lK, take_map', drop_map', str_put, str_end]; all_goals fail_if_success guard_target =ₛ False) | (with_reducible first | ((first | refine yA rfl ?_ | refine yB rfl ?_ | refine yS ?_ | refine yT (by kernel_rfl) ?_ | refine yC rfl ?_ | refine yD rfl ?_ | refine yE rfl ?_ | refine yF rfl ?_ | refine yG rfl ?_ | refine yH rfl ?_); intro K hK) | (apply hK; clear hK K) | refine yU ?_ | (refine yV (by with_unfolding_all rfl) ?_ ?_ <;> intro h <;> (try simp only [zM, zN] at h) <;> try exact absurd h (by decide)) | refine yW ?_ | refine yX ?_ | refine yY ?_ | (refine ⟨fun h => ?_, fun h => ?_⟩ <;> (try simp only [zM, zN] at h) <;> try simp only [h]) | refine ⟨by omega, encStr x, hx', ?_⟩ | refine ⟨by omega, encStr y, hy', ?_⟩ | (refine ⟨(by first | omega | (simp only [lA, lB, List.length_take, List.length_drop, lC, lD, List.length_replicate]; omega) : _ ≤ _), ?_⟩) | refine ⟨by omega, by omega, ?_⟩ | (refine AWP.genR (id := 10) [6, 10] [48] mixed (by kernel_rfl) fun K hK => ?_; simp only [Bx.outs, Bx.drop, cond_true, cond_false, Nat.reduceBEq, go_sem]) | refine yZ mixed (by kernel_rfl) fun K hK => ?_ | refine ⟨(by kernel_rfl : depB _ _ _ = true), ?_⟩ | refine Or.inl ?_) | (clear hK K))
          all_goals (rw [wrap_succ hlt hlen0])
          all_goals (refine ⟨putAt j x s, ?_, ?_⟩)
          all_goals (try first
            | (refine Gh.trans (Gh.freeze 59 rfl rfl (by simp only [go_sem, zA, zB, zC, zD, zE, zF, zG, reduceCtorEq, zH, zI, zJ, zK, zL, lB, lA]) (by simp only [go_sem, zA, zB, zC, zD, zE, zF, zG, reduceCtorEq, zH, zI, zJ, zK, zL, lB, lA])) ?_; simp only [go_sem, zA, zB, zC, zD, zE, zF, zG, reduceCtorEq, zH, zI, zJ, zK, zL, lB, lA]; exact (by refine xG [] ?_ ?_ rfl rfl rfl <;> repeat first | exact trivial | refine ⟨rfl, ?_⟩ | refine ⟨by (simp only [go_sem, zA, zB, zC, zD, zE, zF, zG, reduceCtorEq, zH, zI, zJ, zK, zL, lA, lB, lC, lD, Nat.zero_add]) <;> rfl, ?_⟩))
            | (exact (by refine xG [] ?_ ?_ rfl rfl rfl <;> repeat first | exact trivial | refine ⟨rfl, ?_⟩ | refine ⟨by (simp only [go_sem, zA, zB, zC, zD, zE, zF, zG, reduceCtorEq, zH, zI, zJ, zK, zL, lA, lB, lC, lD, Nat.zero_add]) <;> rfl, ?_⟩)))
          all_goals (refine ⟨?_, by rw [putAt_len]; omega⟩; rw [Is, foldl_take hx, ← hok, insS, hp, hy]; rw [show decide (some y = some x) = decide (y = x) from by simp, hyx]; try rfl)
        ·
          repeat' (first | (simp only [go_sem, zA, zB, zC, zD, zE, zF, zG, reduceCtorEq, zH, zI, zJ, zK, zL, lB, hbj, hb, hz, hyx, encStr]; all_goals fail_if_success guard_target =ₛ False) | (with_reducible first | ((first | refine yA rfl ?_ | refine yB rfl ?_ | refine yS ?_ | refine yT (by kernel_rfl) ?_ | refine yC rfl ?_ | refine yD rfl ?_ | refine yE rfl ?_ | refine yF rfl ?_ | refine yG rfl ?_ | refine yH rfl ?_); intro K hK) | (apply hK; clear hK K) | refine yU ?_ | (refine yV (by with_unfolding_all rfl) ?_ ?_ <;> intro h <;> (try simp only [zM, zN] at h) <;> try exact absurd h (by decide)) | refine yW ?_ | refine yX ?_ | refine yY ?_ | (refine ⟨fun h => ?_, fun h => ?_⟩ <;> (try simp only [zM, zN] at h) <;> try simp only [h]) | refine ⟨by omega, encStr x, hx', ?_⟩ | refine ⟨by omega, encStr y, hy', ?_⟩ | (refine xB (id := 10) 6 mixed (by kernel_rfl) fun K hK => ?_; simp only [lG, lH, lI, lJ]) | refine yZ mixed (by kernel_rfl) fun K hK => ?_ | refine ⟨(by kernel_rfl : depB _ _ _ = true), ?_⟩ | refine Or.inl ?_) | (clear hK K))
          all_goals (rw [wrap_succ hlt hlen0])
          all_goals (refine ⟨s, ?_, (by refine xG [] ?_ ?_ rfl rfl rfl <;> repeat first | exact trivial | refine ⟨rfl, ?_⟩ | refine ⟨by (simp only [go_sem, zA, zB, zC, zD, zE, zF, zG, reduceCtorEq, zH, zI, zJ, zK, zL, lA, lB, lC, lD, Nat.zero_add]) <;> rfl, ?_⟩)⟩)
          all_goals (refine ⟨?_, by omega⟩; rw [Is, foldl_take hx, ← hok, insS, hp, hy]; rw [show decide (some y = some x) = decide (y = x) from by simp, hyx]; try rfl)
      ·
        repeat' (first | (simp only [go_sem, zA, zB, zC, zD, zE, zF, zG, reduceCtorEq, zH, zI, zJ, zK, zL, lB, hbj, hz, encStr]; all_goals fail_if_success guard_target =ₛ False) | (with_reducible first | ((first | refine yA rfl ?_ | refine yB rfl ?_ | refine yS ?_ | refine yT (by kernel_rfl) ?_ | refine yC rfl ?_ | refine yD rfl ?_ | refine yE rfl ?_ | refine yF rfl ?_ | refine yG rfl ?_ | refine yH rfl ?_); intro K hK) | (apply hK; clear hK K) | refine yU ?_ | (refine yV (by with_unfolding_all rfl) ?_ ?_ <;> intro h <;> (try simp only [zM, zN] at h) <;> try exact absurd h (by decide)) | refine yW ?_ | refine yX ?_ | refine yY ?_ | (refine ⟨fun h => ?_, fun h => ?_⟩ <;> (try simp only [zM, zN] at h) <;> try simp only [h]) | refine ⟨by omega, encStr x, hx', ?_⟩ | refine ⟨by omega, encStr y, hy', ?_⟩ | (refine xB (id := 10) 6 mixed (by kernel_rfl) fun K hK => ?_; simp only [lG, lH, lI, lJ]) | refine yZ mixed (by kernel_rfl) fun K hK => ?_ | refine ⟨(by kernel_rfl : depB _ _ _ = true), ?_⟩ | refine Or.inl ?_) | (clear hK K))
        all_goals (rw [wrap_succ hjl (by omega)])
        all_goals (refine ⟨j + 1, by omega, ⟨by omega, by omega⟩, (by refine xG [] ?_ ?_ rfl rfl rfl <;> repeat first | exact trivial | refine ⟨rfl, ?_⟩ | refine ⟨by (simp only [go_sem, zA, zB, zC, zD, zE, zF, zG, reduceCtorEq, zH, zI, zJ, zK, zL, lA, lB, lC, lD, Nat.zero_add]) <;> rfl, ?_⟩)⟩)
    · have hjs : j = s.length := by omega
      subst hjs
      have hbj : decide ((s.length : Int) < (s.length : Int)) = false := by simp
      rw [tw_end, Nat.add_zero] at hp
      have hnone : s[s.length]? = none := by simp
      repeat' (first | (simp only [go_sem, zA, zB, zC, zD, zE, zF, zG, reduceCtorEq, zH, zI, zJ, zK, zL, lB, hbj, hb, encStr, Int.toNat_natCast, lJ, lK, take_map', drop_map', str_put, str_end]; all_goals fail_if_success guard_target =ₛ False) | (with_reducible first | ((first | refine yA rfl ?_ | refine yB rfl ?_ | refine yS ?_ | refine yT (by kernel_rfl) ?_ | refine yC rfl ?_ | refine yD rfl ?_ | refine yE rfl ?_ | refine yF rfl ?_ | refine yG rfl ?_ | refine yH rfl ?_); intro K hK) | (apply hK; clear hK K) | refine yU ?_ | (refine yV (by with_unfolding_all rfl) ?_ ?_ <;> intro h <;> (try simp only [zM, zN] at h) <;> try exact absurd h (by decide)) | refine yW ?_ | refine yX ?_ | refine yY ?_ | (refine ⟨fun h => ?_, fun h => ?_⟩ <;> (try simp only [zM, zN] at h) <;> try simp only [h]) | refine ⟨by omega, encStr x, hx', ?_⟩ | (refine ⟨(by first | omega | (simp only [lA, lB, List.length_take, List.length_drop, lC, lD, List.length_replicate]; omega) : _ ≤ _), ?_⟩) | refine ⟨by omega, by omega, ?_⟩ | (refine AWP.genR (id := 10) [6, 10] [48] mixed (by kernel_rfl) fun K hK => ?_; simp only [Bx.outs, Bx.drop, cond_true, cond_false, Nat.reduceBEq, go_sem]) | refine yZ mixed (by kernel_rfl) fun K hK => ?_ | refine ⟨(by kernel_rfl : depB _ _ _ = true), ?_⟩ | refine Or.inl ?_) | (clear hK K))
      all_goals (rw [wrap_succ hlt hlen0])
      all_goals (refine ⟨putAt s.length x s, ?_, ?_⟩)
      all_goals (try first
        | (refine Gh.trans (Gh.freeze 59 rfl rfl (by simp only [go_sem, zA, zB, zC, zD, zE, zF, zG, reduceCtorEq, zH, zI, zJ, zK, zL, lB, lA]) (by simp only [go_sem, zA, zB, zC, zD, zE, zF, zG, reduceCtorEq, zH, zI, zJ, zK, zL, lB, lA])) ?_; simp only [go_sem, zA, zB, zC, zD, zE, zF, zG, reduceCtorEq, zH, zI, zJ, zK, zL, lB, lA]; exact (by refine xG [] ?_ ?_ rfl rfl rfl <;> repeat first | exact trivial | refine ⟨rfl, ?_⟩ | refine ⟨by (simp only [go_sem, zA, zB, zC, zD, zE, zF, zG, reduceCtorEq, zH, zI, zJ, zK, zL, lA, lB, lC, lD, Nat.zero_add]) <;> rfl, ?_⟩))
        | (exact (by refine xG [] ?_ ?_ rfl rfl rfl <;> repeat first | exact trivial | refine ⟨rfl, ?_⟩ | refine ⟨by (simp only [go_sem, zA, zB, zC, zD, zE, zF, zG, reduceCtorEq, zH, zI, zJ, zK, zL, lA, lB, lC, lD, Nat.zero_add]) <;> rfl, ?_⟩)))
      all_goals (refine ⟨?_, by rw [putAt_len]; omega⟩; rw [Is, foldl_take hx, ← hok, insS, hp, hnone]; try rfl)
  · intro s hb hok
    simp only [go_sem, zA, zB, zC, zD, zE, zF, zG, reduceCtorEq, zH, zI, zJ, zK, zL]
    repeat' (first | (simp only [go_sem, zA, zB, zC, zD, zE, zF, zG, reduceCtorEq, zH, zI, zJ, zK, zL, lB, hb]; all_goals fail_if_success guard_target =ₛ False) | (with_reducible first | ((first | refine yA rfl ?_ | refine yB rfl ?_ | refine yS ?_ | refine yT (by kernel_rfl) ?_ | refine yC rfl ?_ | refine yD rfl ?_ | refine yE rfl ?_ | refine yF rfl ?_ | refine yG rfl ?_ | refine yH rfl ?_); intro K hK) | (apply hK; clear hK K) | refine yU ?_ | (refine yV (by with_unfolding_all rfl) ?_ ?_ <;> intro h <;> (try simp only [zM, zN] at h) <;> try exact absurd h (by decide)) | refine yW ?_ | refine yX ?_ | refine yY ?_ | (refine ⟨fun h => ?_, fun h => ?_⟩ <;> (try simp only [zM, zN] at h) <;> try simp only [h]) | (refine xB (id := 10) 6 mixed (by kernel_rfl) fun K hK => ?_; simp only [lG, lH, lI, lJ]) | refine yZ mixed (by kernel_rfl) fun K hK => ?_ | refine ⟨(by kernel_rfl : depB _ _ _ = true), ?_⟩ | refine Or.inl ?_) | (clear hK K))
    all_goals (first | exact fun _ h => (by cases h) | refine fin0 ?_)
    all_goals (rw [show s = _ from hok.1, lK]; rfl)
end Go.Proofs.YteobojeemflggaaGreat
