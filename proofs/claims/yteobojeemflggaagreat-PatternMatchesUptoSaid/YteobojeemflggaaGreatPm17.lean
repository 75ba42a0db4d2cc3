/- A part of the proof. Conditions: those that each lemma states. -/
import Derived.Test.YteobojeemflggaaGreatPm16
import Derived.Test.YteobojeemflggaaGreatPm13
import Derived.Test.YteobojeemflggaaGreatPm15
import Derived.Test.YteobojeemflggaaGreatPm3
import Derived.Test.YteobojeemflggaaGreatPm4
import Derived.Test.YteobojeemflggaaGreatPm10
import Derived.Test.YteobojeemflggaaGreatPm14
open Go.Proofs.Tryz renaming prog → zP
open List renaming length_append → lA, length_map → lB, length_cons → lC, length_nil → lD, map_cons → lE, take_succ_cons → lG, take_zero → lH, drop_succ_cons → lI, drop_zero → lJ, drop_length → lL, mem_of_getElem? → lP, length_take → lQ
open Go.Sx renaming seqVC_stepN → yA, seqVC_stepG → yB, parVC_stepN → yC, parVC_stepG → yD, parEVC_stepN → yE, parEVC_stepG → yF, genVC_stepN → yG, genVC_stepG → yH
open Go.Sx.AWP renaming seq → yS, seqR → yT, block → yU, cond → yV, skip → yW, ret → yX, exit → yY, parR → yZ, segP → xB, range → xC, gh → xD, lenB → xE
open Go.Sx.Gh renaming to → xG, freeze → xH, nilrow → xI
open Nat renaming reduceBEq → zA, reduceBNe → zB, reduceAdd → zC, reduceSub → zD, reduceMul → zE, reduceLeDiff → zF, reduceLT → zG, reduceEqDiff → zH
open Int renaming reduceToNat → zI, reduceLE → zJ, reduceLT → zK, reduceEq → zL
open Bool renaming not_eq_true' → zM, not_eq_false' → zN
set_option linter.unusedSimpArgs false
set_option linter.unusedVariables false
set_option maxRecDepth 20000
set_option maxHeartbeats 64000000
namespace Go.Proofs.YteobojeemflggaaGreat
open Go Go.Sx
theorem refM_7 (g : Pat) (v : Val) (hs : PSm g) (hg : treeP g = true) (hv : treeB v = true) (ih : ∀ k ∈ g.kids, ∀ w : Val, treeB w = true → PC zP 89 [.st (encP k), .st (encVal w)] (refR (refP k w))) (hk : g.kind = 7) : PC zP 89 [Pt g, Vt v] (refR (refP g v)) := by
  have hvp := vP_of hg
  have hce := cntP_eq g
  unfold PSm at hs
  cases hz : decide (v.kind = 6)
  ·
    rw [show refP g v = none from by rw [refP_eq, hk]; show (bif decide (v.kind = 6) && decide (g.kids.length = v.kids.length) then refL g.kids v.kids else none) = none; rw [hz]; rfl]
    refine PCB.of_body Tryz.func89 rfl (by decide) Tryz.ntmps89 Tryz.results89 rfl rfl rfl ?_ rfl rfl
    repeat' (first | (simp only [go_sem, zA, zB, zC, zD, zE, zF, zG, reduceCtorEq, zH, zI, zJ, zK, zL, encP_eq g, encVal_eq v, hk, hz, lB]; all_goals fail_if_success guard_target =ₛ False) | (with_reducible first | ((first | refine yA rfl ?_ | refine yB rfl ?_ | refine yS ?_ | refine yT (by kernel_rfl) ?_ | refine yC rfl ?_ | refine yD rfl ?_ | refine yE rfl ?_ | refine yF rfl ?_ | refine yG rfl ?_ | refine yH rfl ?_); intro K hK) | (apply hK; clear hK K) | refine yU ?_ | (refine yV (by with_unfolding_all rfl) ?_ ?_ <;> intro h <;> (try simp only [zM, zN] at h) <;> try exact absurd h (by decide)) | refine yW ?_ | refine yX ?_ | refine yY ?_ | (refine ⟨fun h => ?_, fun h => ?_⟩ <;> (try simp only [zM, zN] at h) <;> try simp only [h]) | (refine xB (id := 24) 4 mixed (by kernel_rfl) fun K hK => ?_; simp only [lG, lH, lI, lJ]) | refine yZ mixed (by kernel_rfl) fun K hK => ?_ | refine ⟨(by kernel_rfl : depB _ _ _ = true), ?_⟩ | refine Or.inl ?_) | (clear hK K))
    all_goals (first | exact fun _ h => (by cases h) | refine fin0 ?_)
    all_goals rfl
  cases hz2 : decide ((v.kids.length : Int) = (g.kids.length : Int))
  ·
    have hz3 : decide (g.kids.length = v.kids.length) = false := by simp only [decide_eq_false_iff_not] at hz2 ⊢; omega
    rw [show refP g v = none from by rw [refP_eq, hk]; show (bif decide (v.kind = 6) && decide (g.kids.length = v.kids.length) then refL g.kids v.kids else none) = none; rw [hz, hz3]; rfl]
    refine PCB.of_body Tryz.func89 rfl (by decide) Tryz.ntmps89 Tryz.results89 rfl rfl rfl ?_ rfl rfl
    repeat' (first | (simp only [go_sem, zA, zB, zC, zD, zE, zF, zG, reduceCtorEq, zH, zI, zJ, zK, zL, encP_eq g, encVal_eq v, hk, hz, hz2, lB]; all_goals fail_if_success guard_target =ₛ False) | (with_reducible first | ((first | refine yA rfl ?_ | refine yB rfl ?_ | refine yS ?_ | refine yT (by kernel_rfl) ?_ | refine yC rfl ?_ | refine yD rfl ?_ | refine yE rfl ?_ | refine yF rfl ?_ | refine yG rfl ?_ | refine yH rfl ?_); intro K hK) | (apply hK; clear hK K) | refine yU ?_ | (refine yV (by with_unfolding_all rfl) ?_ ?_ <;> intro h <;> (try simp only [zM, zN] at h) <;> try exact absurd h (by decide)) | refine yW ?_ | refine yX ?_ | refine yY ?_ | (refine ⟨fun h => ?_, fun h => ?_⟩ <;> (try simp only [zM, zN] at h) <;> try simp only [h]) | (refine xB (id := 24) 4 mixed (by kernel_rfl) fun K hK => ?_; simp only [lG, lH, lI, lJ]) | refine yZ mixed (by kernel_rfl) fun K hK => ?_ | refine ⟨(by kernel_rfl : depB _ _ _ = true), ?_⟩ | refine Or.inl ?_) | (clear hK K))
    all_goals (first | exact fun _ h => (by cases h) | refine fin0 ?_)
    all_goals rfl
  have hll : v.kids.length = g.kids.length := by simp only [decide_eq_true_eq] at hz2; omega
  have hws : ∀ w ∈ v.kids, treeB w = true := fun w hw => treeB_kid hv hw
  have hfin : refP g v = (refL g.kids v.kids).map ([] ++ ·) := by
    rw [refP_eq, hk]; show (bif decide (v.kind = 6) && decide (g.kids.length = v.kids.length) then refL g.kids v.kids else none) = _; rw [hz, hll]; simp
  refine PCB.of_body Tryz.func89 rfl (by decide) Tryz.ntmps89 Tryz.results89 rfl rfl rfl ?_ rfl rfl
  refine AWP.ghQ ?_
  repeat' (first | (simp only [go_sem, zA, zB, zC, zD, zE, zF, zG, reduceCtorEq, zH, zI, zJ, zK, zL, encP_eq g, encVal_eq v, hk, hz, hz2, lB]; all_goals fail_if_success guard_target =ₛ False) | (with_reducible first | ((first | refine yA rfl ?_ | refine yB rfl ?_ | refine yS ?_ | refine yT (by kernel_rfl) ?_ | refine yC rfl ?_ | refine yD rfl ?_ | refine yE rfl ?_ | refine yF rfl ?_ | refine yG rfl ?_ | refine yH rfl ?_); intro K hK) | (apply hK; clear hK K) | refine yU ?_ | (refine yV (by with_unfolding_all rfl) ?_ ?_ <;> intro h <;> (try simp only [zM, zN] at h) <;> try exact absurd h (by decide)) | refine yW ?_ | refine yX ?_ | refine yY ?_ | (refine ⟨fun h => ?_, fun h => ?_⟩ <;> (try simp only [zM, zN] at h) <;> try simp only [h]) | (refine xB (id := 24) 4 mixed (by kernel_rfl) fun K hK => ?_; simp only [lG, lH, lI, lJ]) | refine yZ mixed (by kernel_rfl) fun K hK => ?_ | refine ⟨(by kernel_rfl : depB _ _ _ = true), ?_⟩ | refine Or.inl ?_) | (clear hK K))
  refine xD (xI 7 901 rfl rfl rfl (by first | rfl | simp [Bx.fresh, freshs_dat])) ?_
  refine xD (xI 8 902 rfl rfl rfl (by first | rfl | simp [Bx.fresh, freshs_dat])) ?_
  refine xE 2 3 rfl rfl fun hlen1 => ?_
  (try rw [lB] at hlen1)
  refine xC (S := ME) (g.kids) encP (fun k s => (12, I .i64 (k : Nat)) :: [(7, .one (.own 901 s.length)), (8, .one (.own 902 s.length)), (9, .one (.dat (.sl 7 (v.kids.map encVal))))]) (fun k s => [(901, .row 1 (encN s)), (902, .row 7 (encW s))]) [2] [2] (fun k s => refP g v = (refL (g.kids.drop k) (v.kids.drop k)).map (s ++ ·) ∧ s.length ≤ 1 + cntPs (g.kids.take k)) ([]) (by simp only [go_sem, zA, zB, zC, zD, zE, zF, zG, reduceCtorEq, zH, zI, zJ, zK, zL, encP_eq g]; exact (by refine xG [] ?_ ?_ rfl rfl rfl <;> repeat first | exact trivial | refine ⟨rfl, ?_⟩ | refine ⟨by (simp only [go_sem, zA, zB, zC, zD, zE, zF, zG, reduceCtorEq, zH, zI, zJ, zK, zL, lA, lB, lC, lD, Nat.zero_add]) <;> rfl, ?_⟩)) ?_ ?_ ?_
  · exact ⟨hfin, by simp⟩
  · rintro k s x hlt hx hx' hb ⟨hok, hsl⟩
    simp only [go_sem, zA, zB, zC, zD, zE, zF, zG, reduceCtorEq, zH, zI, zJ, zK, zL]
    obtain ⟨w, hw, hw', _, _⟩ := at_lt (enc := encVal) (l := v.kids) (k := k) (by have := hll; omega)
    have hmx : x ∈ g.kids := lP hx
    have hix := ih x hmx w (hws w (lP hw))
    have hct := cntPs_take hx
    have hcl := cntPs_le g.kids (k + 1)
    rw [refL_drop hx hw] at hok
    cases hr : refP x w with
    | none =>
      rw [hr] at hok hix
      rw [refR_none] at hix
      repeat' (first | (simp only [go_sem, zA, zB, zC, zD, zE, zF, zG, reduceCtorEq, zH, zI, zJ, zK, zL, encP_eq g, lB, hb]; all_goals fail_if_success guard_target =ₛ False) | (with_reducible first | ((first | refine yA rfl ?_ | refine yB rfl ?_ | refine yS ?_ | refine yT (by kernel_rfl) ?_ | refine yC rfl ?_ | refine yD rfl ?_ | refine yE rfl ?_ | refine yF rfl ?_ | refine yG rfl ?_ | refine yH rfl ?_); intro K hK) | (apply hK; clear hK K) | refine yU ?_ | (refine yV (by with_unfolding_all rfl) ?_ ?_ <;> intro h <;> (try simp only [zM, zN] at h) <;> try exact absurd h (by decide)) | refine yW ?_ | refine yX ?_ | refine yY ?_ | (refine ⟨fun h => ?_, fun h => ?_⟩ <;> (try simp only [zM, zN] at h) <;> try simp only [h]) | refine ⟨_, hix, ?_⟩ | refine ⟨by omega, encP x, hx', ?_⟩ | refine ⟨by omega, encVal w, hw', ?_⟩ | (refine xB (id := 24) 4 mixed (by kernel_rfl) fun K hK => ?_; simp only [lG, lH, lI, lJ]) | refine yZ mixed (by kernel_rfl) fun K hK => ?_ | refine ⟨(by kernel_rfl : depB _ _ _ = true), ?_⟩ | refine Or.inl ?_) | (clear hK K))
      all_goals (refine ⟨_, Gh.refl _, ?_⟩; simp only [go_sem, zA, zB, zC, zD, zE, zF, zG, reduceCtorEq, zH, zI, zJ, zK, zL]; refine fin0 ?_)
      all_goals (rw [hok]; rfl)
    | some a =>
      have hna := refP_names x w (treeP_kid hg hmx) a hr
      have hal : a.length ≤ cntP x := by have := congrArg List.length hna; rw [lB] at this; have := collP_len x; omega
      rw [hr] at hok hix
      rw [refR_some] at hix
      repeat' (first | (simp only [go_sem, zA, zB, zC, zD, zE, zF, zG, reduceCtorEq, zH, zI, zJ, zK, zL, encP_eq g, lB, encN_len, encW_len, encN_app, encW_app, hb]; all_goals fail_if_success guard_target =ₛ False) | (with_reducible first | ((first | refine yA rfl ?_ | refine yB rfl ?_ | refine yS ?_ | refine yT (by kernel_rfl) ?_ | refine yC rfl ?_ | refine yD rfl ?_ | refine yE rfl ?_ | refine yF rfl ?_ | refine yG rfl ?_ | refine yH rfl ?_); intro K hK) | (apply hK; clear hK K) | refine yU ?_ | (refine yV (by with_unfolding_all rfl) ?_ ?_ <;> intro h <;> (try simp only [zM, zN] at h) <;> try exact absurd h (by decide)) | refine yW ?_ | refine yX ?_ | refine yY ?_ | (refine ⟨fun h => ?_, fun h => ?_⟩ <;> (try simp only [zM, zN] at h) <;> try simp only [h]) | refine ⟨_, hix, ?_⟩ | refine ⟨by omega, encP x, hx', ?_⟩ | refine ⟨by omega, encVal w, hw', ?_⟩ | (refine ⟨(by rw [encN_len]; omega : _ ≤ _), ?_⟩) | refine ⟨(by omega : _ ≤ _), ?_⟩ | (refine ⟨(by first | omega | (simp only [lA, lB, lQ, List.length_drop, lC, lD, List.length_replicate]; omega) : _ ≤ _), ?_⟩) | refine ⟨by omega, by omega, ?_⟩ | (refine xB (id := 24) 4 mixed (by kernel_rfl) fun K hK => ?_; simp only [lG, lH, lI, lJ]) | refine yZ mixed (by kernel_rfl) fun K hK => ?_ | refine ⟨(by kernel_rfl : depB _ _ _ = true), ?_⟩ | refine Or.inl ?_) | (clear hK K))
      all_goals (rw [wrap_succ hlt hlen1])
      all_goals (refine ⟨s ++ a, ?_, (by refine xG [(901, 162), (902, 165)] ?_ ?_ rfl rfl rfl <;> repeat first | exact trivial | refine ⟨rfl, ?_⟩ | refine ⟨by (simp only [go_sem, zA, zB, zC, zD, zE, zF, zG, reduceCtorEq, zH, zI, zJ, zK, zL, lA, lB, lC, lD, Nat.zero_add]) <;> rfl, ?_⟩)⟩)
      all_goals (refine ⟨?_, by rw [lA]; omega⟩; rw [hok]; simp only [Option.map_map]; congr 1; funext z; simp)
  · rintro s hb ⟨hok, hsl⟩
    simp only [go_sem, zA, zB, zC, zD, zE, zF, zG, reduceCtorEq, zH, zI, zJ, zK, zL]
    rw [lL, refL_nil] at hok
    repeat' (first | (simp only [go_sem, zA, zB, zC, zD, zE, zF, zG, reduceCtorEq, zH, zI, zJ, zK, zL, encP_eq g, lB, hb]; all_goals fail_if_success guard_target =ₛ False) | (with_reducible first | ((first | refine yA rfl ?_ | refine yB rfl ?_ | refine yS ?_ | refine yT (by kernel_rfl) ?_ | refine yC rfl ?_ | refine yD rfl ?_ | refine yE rfl ?_ | refine yF rfl ?_ | refine yG rfl ?_ | refine yH rfl ?_); intro K hK) | (apply hK; clear hK K) | refine yU ?_ | (refine yV (by with_unfolding_all rfl) ?_ ?_ <;> intro h <;> (try simp only [zM, zN] at h) <;> try exact absurd h (by decide)) | refine yW ?_ | refine yX ?_ | refine yY ?_ | (refine ⟨fun h => ?_, fun h => ?_⟩ <;> (try simp only [zM, zN] at h) <;> try simp only [h]) | (refine xB (id := 24) 4 mixed (by kernel_rfl) fun K hK => ?_; simp only [lG, lH, lI, lJ]) | refine yZ mixed (by kernel_rfl) fun K hK => ?_ | refine ⟨(by kernel_rfl : depB _ _ _ = true), ?_⟩ | refine Or.inl ?_) | (clear hK K))
    refine GhQ.step (xH 901 rfl rfl (by simp only [go_sem, zA, zB, zC, zD, zE, zF, zG, reduceCtorEq, zH, zI, zJ, zK, zL, encN_len, encW_len]) (by simp only [go_sem, zA, zB, zC, zD, zE, zF, zG, reduceCtorEq, zH, zI, zJ, zK, zL, encN_len, encW_len])) ?_
    simp only [go_sem, zA, zB, zC, zD, zE, zF, zG, reduceCtorEq, zH, zI, zJ, zK, zL, encN_len, encW_len]
    refine ⟨_, xH 902 rfl rfl (by simp only [go_sem, zA, zB, zC, zD, zE, zF, zG, reduceCtorEq, zH, zI, zJ, zK, zL, encN_len, encW_len]) (by simp only [go_sem, zA, zB, zC, zD, zE, zF, zG, reduceCtorEq, zH, zI, zJ, zK, zL, encN_len, encW_len]), ?_⟩
    simp only [go_sem, zA, zB, zC, zD, zE, zF, zG, reduceCtorEq, zH, zI, zJ, zK, zL, encN_len, encW_len]
    all_goals (first | exact fun _ h => (by cases h) | refine fin0 ?_)
    all_goals (rw [hok]; simp [refR])
theorem refM_8 (g : Pat) (v : Val) (hs : PSm g) (hg : treeP g = true) (hv : treeB v = true) (ih : ∀ k ∈ g.kids, ∀ w : Val, treeB w = true → PC zP 89 [.st (encP k), .st (encVal w)] (refR (refP k w))) (hk : g.kind = 8) : PC zP 89 [Pt g, Vt v] (refR (refP g v)) := by
  have hvp := vP_of hg
  have hce := cntP_eq g
  unfold PSm at hs
  cases hz : decide (v.kind = 7)
  ·
    rw [show refP g v = none from by rw [refP_eq, hk]; show (bif decide (v.kind = 7) && decide (g.kids.length = v.kids.length) then refL g.kids v.kids else none) = none; rw [hz]; rfl]
    refine PCB.of_body Tryz.func89 rfl (by decide) Tryz.ntmps89 Tryz.results89 rfl rfl rfl ?_ rfl rfl
    repeat' (first | (simp only [go_sem, zA, zB, zC, zD, zE, zF, zG, reduceCtorEq, zH, zI, zJ, zK, zL, encP_eq g, encVal_eq v, hk, hz, lB]; all_goals fail_if_success guard_target =ₛ False) | (with_reducible first | ((first | refine yA rfl ?_ | refine yB rfl ?_ | refine yS ?_ | refine yT (by kernel_rfl) ?_ | refine yC rfl ?_ | refine yD rfl ?_ | refine yE rfl ?_ | refine yF rfl ?_ | refine yG rfl ?_ | refine yH rfl ?_); intro K hK) | (apply hK; clear hK K) | refine yU ?_ | (refine yV (by with_unfolding_all rfl) ?_ ?_ <;> intro h <;> (try simp only [zM, zN] at h) <;> try exact absurd h (by decide)) | refine yW ?_ | refine yX ?_ | refine yY ?_ | (refine ⟨fun h => ?_, fun h => ?_⟩ <;> (try simp only [zM, zN] at h) <;> try simp only [h]) | (refine xB (id := 24) 4 mixed (by kernel_rfl) fun K hK => ?_; simp only [lG, lH, lI, lJ]) | refine yZ mixed (by kernel_rfl) fun K hK => ?_ | refine ⟨(by kernel_rfl : depB _ _ _ = true), ?_⟩ | refine Or.inl ?_) | (clear hK K))
    all_goals (first | exact fun _ h => (by cases h) | refine fin0 ?_)
    all_goals rfl
  have hll : v.kids.length = g.kids.length := by rw [treeB_cons hv (of_decide_eq_true hz), vP_cons hvp hk]
  have hws : ∀ w ∈ v.kids, treeB w = true := fun w hw => treeB_kid hv hw
  have hfin : refP g v = (refL g.kids v.kids).map ([] ++ ·) := by
    rw [refP_eq, hk]; show (bif decide (v.kind = 7) && decide (g.kids.length = v.kids.length) then refL g.kids v.kids else none) = _; rw [hz, hll]; simp
  refine PCB.of_body Tryz.func89 rfl (by decide) Tryz.ntmps89 Tryz.results89 rfl rfl rfl ?_ rfl rfl
  refine AWP.ghQ ?_
  repeat' (first | (simp only [go_sem, zA, zB, zC, zD, zE, zF, zG, reduceCtorEq, zH, zI, zJ, zK, zL, encP_eq g, encVal_eq v, hk, hz, lB]; all_goals fail_if_success guard_target =ₛ False) | (with_reducible first | ((first | refine yA rfl ?_ | refine yB rfl ?_ | refine yS ?_ | refine yT (by kernel_rfl) ?_ | refine yC rfl ?_ | refine yD rfl ?_ | refine yE rfl ?_ | refine yF rfl ?_ | refine yG rfl ?_ | refine yH rfl ?_); intro K hK) | (apply hK; clear hK K) | refine yU ?_ | (refine yV (by with_unfolding_all rfl) ?_ ?_ <;> intro h <;> (try simp only [zM, zN] at h) <;> try exact absurd h (by decide)) | refine yW ?_ | refine yX ?_ | refine yY ?_ | (refine ⟨fun h => ?_, fun h => ?_⟩ <;> (try simp only [zM, zN] at h) <;> try simp only [h]) | (refine xB (id := 24) 4 mixed (by kernel_rfl) fun K hK => ?_; simp only [lG, lH, lI, lJ]) | refine yZ mixed (by kernel_rfl) fun K hK => ?_ | refine ⟨(by kernel_rfl : depB _ _ _ = true), ?_⟩ | refine Or.inl ?_) | (clear hK K))
  refine xD (xI 7 901 rfl rfl rfl (by first | rfl | simp [Bx.fresh, freshs_dat])) ?_
  refine xD (xI 8 902 rfl rfl rfl (by first | rfl | simp [Bx.fresh, freshs_dat])) ?_
  refine xE 2 3 rfl rfl fun hlen1 => ?_
  (try rw [lB] at hlen1)
  refine xC (S := ME) (g.kids) encP (fun k s => (12, I .i64 (k : Nat)) :: [(7, .one (.own 901 s.length)), (8, .one (.own 902 s.length)), (9, .one (.dat (.sl 7 (v.kids.map encVal))))]) (fun k s => [(901, .row 1 (encN s)), (902, .row 7 (encW s))]) [2] [2] (fun k s => refP g v = (refL (g.kids.drop k) (v.kids.drop k)).map (s ++ ·) ∧ s.length ≤ 1 + cntPs (g.kids.take k)) ([]) (by simp only [go_sem, zA, zB, zC, zD, zE, zF, zG, reduceCtorEq, zH, zI, zJ, zK, zL, encP_eq g]; exact (by refine xG [] ?_ ?_ rfl rfl rfl <;> repeat first | exact trivial | refine ⟨rfl, ?_⟩ | refine ⟨by (simp only [go_sem, zA, zB, zC, zD, zE, zF, zG, reduceCtorEq, zH, zI, zJ, zK, zL, lA, lB, lC, lD, Nat.zero_add]) <;> rfl, ?_⟩)) ?_ ?_ ?_
  · exact ⟨hfin, by simp⟩
  · rintro k s x hlt hx hx' hb ⟨hok, hsl⟩
    simp only [go_sem, zA, zB, zC, zD, zE, zF, zG, reduceCtorEq, zH, zI, zJ, zK, zL]
    obtain ⟨w, hw, hw', _, _⟩ := at_lt (enc := encVal) (l := v.kids) (k := k) (by have := hll; omega)
    have hmx : x ∈ g.kids := lP hx
    have hix := ih x hmx w (hws w (lP hw))
    have hct := cntPs_take hx
    have hcl := cntPs_le g.kids (k + 1)
    rw [refL_drop hx hw] at hok
    cases hr : refP x w with
    | none =>
      rw [hr] at hok hix
      rw [refR_none] at hix
      repeat' (first | (simp only [go_sem, zA, zB, zC, zD, zE, zF, zG, reduceCtorEq, zH, zI, zJ, zK, zL, encP_eq g, lB, hb]; all_goals fail_if_success guard_target =ₛ False) | (with_reducible first | ((first | refine yA rfl ?_ | refine yB rfl ?_ | refine yS ?_ | refine yT (by kernel_rfl) ?_ | refine yC rfl ?_ | refine yD rfl ?_ | refine yE rfl ?_ | refine yF rfl ?_ | refine yG rfl ?_ | refine yH rfl ?_); intro K hK) | (apply hK; clear hK K) | refine yU ?_ | (refine yV (by with_unfolding_all rfl) ?_ ?_ <;> intro h <;> (try simp only [zM, zN] at h) <;> try exact absurd h (by decide)) | refine yW ?_ | refine yX ?_ | refine yY ?_ | (refine ⟨fun h => ?_, fun h => ?_⟩ <;> (try simp only [zM, zN] at h) <;> try simp only [h]) | refine ⟨_, hix, ?_⟩ | refine ⟨by omega, encP x, hx', ?_⟩ | refine ⟨by omega, encVal w, hw', ?_⟩ | (refine xB (id := 24) 4 mixed (by kernel_rfl) fun K hK => ?_; simp only [lG, lH, lI, lJ]) | refine yZ mixed (by kernel_rfl) fun K hK => ?_ | refine ⟨(by kernel_rfl : depB _ _ _ = true), ?_⟩ | refine Or.inl ?_) | (clear hK K))
      all_goals (refine ⟨_, Gh.refl _, ?_⟩; simp only [go_sem, zA, zB, zC, zD, zE, zF, zG, reduceCtorEq, zH, zI, zJ, zK, zL]; refine fin0 ?_)
      all_goals (rw [hok]; rfl)
    | some a =>
      have hna := refP_names x w (treeP_kid hg hmx) a hr
      have hal : a.length ≤ cntP x := by have := congrArg List.length hna; rw [lB] at this; have := collP_len x; omega
      rw [hr] at hok hix
      rw [refR_some] at hix
      repeat' (first | (simp only [go_sem, zA, zB, zC, zD, zE, zF, zG, reduceCtorEq, zH, zI, zJ, zK, zL, encP_eq g, lB, encN_len, encW_len, encN_app, encW_app, hb]; all_goals fail_if_success guard_target =ₛ False) | (with_reducible first | ((first | refine yA rfl ?_ | refine yB rfl ?_ | refine yS ?_ | refine yT (by kernel_rfl) ?_ | refine yC rfl ?_ | refine yD rfl ?_ | refine yE rfl ?_ | refine yF rfl ?_ | refine yG rfl ?_ | refine yH rfl ?_); intro K hK) | (apply hK; clear hK K) | refine yU ?_ | (refine yV (by with_unfolding_all rfl) ?_ ?_ <;> intro h <;> (try simp only [zM, zN] at h) <;> try exact absurd h (by decide)) | refine yW ?_ | refine yX ?_ | refine yY ?_ | (refine ⟨fun h => ?_, fun h => ?_⟩ <;> (try simp only [zM, zN] at h) <;> try simp only [h]) | refine ⟨_, hix, ?_⟩ | refine ⟨by omega, encP x, hx', ?_⟩ | refine ⟨by omega, encVal w, hw', ?_⟩ | (refine ⟨(by rw [encN_len]; omega : _ ≤ _), ?_⟩) | refine ⟨(by omega : _ ≤ _), ?_⟩ | (refine ⟨(by first | omega | (simp only [lA, lB, lQ, List.length_drop, lC, lD, List.length_replicate]; omega) : _ ≤ _), ?_⟩) | refine ⟨by omega, by omega, ?_⟩ | (refine xB (id := 24) 4 mixed (by kernel_rfl) fun K hK => ?_; simp only [lG, lH, lI, lJ]) | refine yZ mixed (by kernel_rfl) fun K hK => ?_ | refine ⟨(by kernel_rfl : depB _ _ _ = true), ?_⟩ | refine Or.inl ?_) | (clear hK K))
      all_goals (rw [wrap_succ hlt hlen1])
      all_goals (refine ⟨s ++ a, ?_, (by refine xG [(901, 162), (902, 165)] ?_ ?_ rfl rfl rfl <;> repeat first | exact trivial | refine ⟨rfl, ?_⟩ | refine ⟨by (simp only [go_sem, zA, zB, zC, zD, zE, zF, zG, reduceCtorEq, zH, zI, zJ, zK, zL, lA, lB, lC, lD, Nat.zero_add]) <;> rfl, ?_⟩)⟩)
      all_goals (refine ⟨?_, by rw [lA]; omega⟩; rw [hok]; simp only [Option.map_map]; congr 1; funext z; simp)
  · rintro s hb ⟨hok, hsl⟩
    simp only [go_sem, zA, zB, zC, zD, zE, zF, zG, reduceCtorEq, zH, zI, zJ, zK, zL]
    rw [lL, refL_nil] at hok
    repeat' (first | (simp only [go_sem, zA, zB, zC, zD, zE, zF, zG, reduceCtorEq, zH, zI, zJ, zK, zL, encP_eq g, lB, hb]; all_goals fail_if_success guard_target =ₛ False) | (with_reducible first | ((first | refine yA rfl ?_ | refine yB rfl ?_ | refine yS ?_ | refine yT (by kernel_rfl) ?_ | refine yC rfl ?_ | refine yD rfl ?_ | refine yE rfl ?_ | refine yF rfl ?_ | refine yG rfl ?_ | refine yH rfl ?_); intro K hK) | (apply hK; clear hK K) | refine yU ?_ | (refine yV (by with_unfolding_all rfl) ?_ ?_ <;> intro h <;> (try simp only [zM, zN] at h) <;> try exact absurd h (by decide)) | refine yW ?_ | refine yX ?_ | refine yY ?_ | (refine ⟨fun h => ?_, fun h => ?_⟩ <;> (try simp only [zM, zN] at h) <;> try simp only [h]) | (refine xB (id := 24) 4 mixed (by kernel_rfl) fun K hK => ?_; simp only [lG, lH, lI, lJ]) | refine yZ mixed (by kernel_rfl) fun K hK => ?_ | refine ⟨(by kernel_rfl : depB _ _ _ = true), ?_⟩ | refine Or.inl ?_) | (clear hK K))
    refine GhQ.step (xH 901 rfl rfl (by simp only [go_sem, zA, zB, zC, zD, zE, zF, zG, reduceCtorEq, zH, zI, zJ, zK, zL, encN_len, encW_len]) (by simp only [go_sem, zA, zB, zC, zD, zE, zF, zG, reduceCtorEq, zH, zI, zJ, zK, zL, encN_len, encW_len])) ?_
    simp only [go_sem, zA, zB, zC, zD, zE, zF, zG, reduceCtorEq, zH, zI, zJ, zK, zL, encN_len, encW_len]
    refine ⟨_, xH 902 rfl rfl (by simp only [go_sem, zA, zB, zC, zD, zE, zF, zG, reduceCtorEq, zH, zI, zJ, zK, zL, encN_len, encW_len]) (by simp only [go_sem, zA, zB, zC, zD, zE, zF, zG, reduceCtorEq, zH, zI, zJ, zK, zL, encN_len, encW_len]), ?_⟩
    simp only [go_sem, zA, zB, zC, zD, zE, zF, zG, reduceCtorEq, zH, zI, zJ, zK, zL, encN_len, encW_len]
    all_goals (first | exact fun _ h => (by cases h) | refine fin0 ?_)
    all_goals (rw [hok]; simp [refR])
theorem refM_10 (g : Pat) (v : Val) (hs : PSm g) (hg : treeP g = true) (hv : treeB v = true) (ih : ∀ k ∈ g.kids, ∀ w : Val, treeB w = true → PC zP 89 [.st (encP k), .st (encVal w)] (refR (refP k w))) (hk : g.kind = 10 ∧ ∃ k0, g.kids = [k0]) : PC zP 89 [Pt g, Vt v] (refR (refP g v)) := by
  have hvp := vP_of hg
  have hce := cntP_eq g
  unfold PSm at hs
  obtain ⟨hk, k0, hk0⟩ := hk
  have h0m : k0 ∈ g.kids := by rw [hk0]; simp
  have hll : [v].length = g.kids.length := by rw [hk0]; rfl
  have hws : ∀ w ∈ [v], treeB w = true := fun w hw => by rw [List.mem_singleton.1 hw]; exact hv
  have hfin : refP g v = (refL g.kids [v]).map ([(g.text, v)] ++ ·) := by
    rw [refP_eq, hk, hk0]
    show (refP k0 v).map ((g.text, v) :: ·) = _
    rw [refL]
    cases refP k0 v with
    | none => rfl
    | some a => simp [refL_nil]
  refine PCB.of_body Tryz.func89 rfl (by decide) Tryz.ntmps89 Tryz.results89 rfl rfl rfl ?_ rfl rfl
  refine AWP.ghQ ?_
  repeat' (first | (simp only [go_sem, zA, zB, zC, zD, zE, zF, zG, reduceCtorEq, zH, zI, zJ, zK, zL, encP_eq g, encVal_eq v, hk, lB]; all_goals fail_if_success guard_target =ₛ False) | (with_reducible first | ((first | refine yA rfl ?_ | refine yB rfl ?_ | refine yS ?_ | refine yT (by kernel_rfl) ?_ | refine yC rfl ?_ | refine yD rfl ?_ | refine yE rfl ?_ | refine yF rfl ?_ | refine yG rfl ?_ | refine yH rfl ?_ | refine genMVC_stepN rfl ?_ | refine genMVC_stepG rfl ?_); intro K hK) | (apply hK; clear hK K) | refine genMVC_nil ?_ | refine yU ?_ | (refine yV (by with_unfolding_all rfl) ?_ ?_ <;> intro h <;> (try simp only [zM, zN] at h) <;> try exact absurd h (by decide)) | refine yW ?_ | refine yX ?_ | refine yY ?_ | (refine ⟨fun h => ?_, fun h => ?_⟩ <;> (try simp only [zM, zN] at h) <;> try simp only [h]) | (refine ⟨(by first | omega | (simp only [lA, lB, lQ, List.length_drop, lC, lD, List.length_replicate]; omega) : _ ≤ _), ?_⟩) | refine ⟨by omega, by omega, ?_⟩ | (refine AWP.genM (id := 24) [4,8] mixed (by kernel_rfl) fun K hK => ?_) | refine yZ mixed (by kernel_rfl) fun K hK => ?_ | refine ⟨(by kernel_rfl : depB _ _ _ = true), ?_⟩ | refine Or.inl ?_) | (clear hK K))
  try rw [← encVal_eq v]
  refine xD (Gh.rename 95 901 rfl rfl rfl rfl) ?_
  refine xD (Gh.rename 99 902 rfl rfl rfl rfl) ?_
  simp only [go_sem, zA, zB, zC, zD, zE, zF, zG, reduceCtorEq, zH, zI, zJ, zK, zL]
  refine xE 2 3 rfl rfl fun hlen1 => ?_
  (try rw [lB] at hlen1)
  refine xC (S := ME) (g.kids) encP (fun k s => (12, I .i64 (k : Nat)) :: [(7, .one (.own 901 s.length)), (8, .one (.own 902 s.length)), (9, .one (.dat (.sl 7 ([v].map encVal))))]) (fun k s => [(901, .row 1 (encN s)), (902, .row 7 (encW s))]) [2] [2] (fun k s => refP g v = (refL (g.kids.drop k) ([v].drop k)).map (s ++ ·) ∧ s.length ≤ 1 + cntPs (g.kids.take k)) ([(g.text, v)]) (by simp only [go_sem, zA, zB, zC, zD, zE, zF, zG, reduceCtorEq, zH, zI, zJ, zK, zL, encP_eq g]; exact (by refine xG [] ?_ ?_ rfl rfl rfl <;> repeat first | exact trivial | refine ⟨rfl, ?_⟩ | refine ⟨by (simp only [go_sem, zA, zB, zC, zD, zE, zF, zG, reduceCtorEq, zH, zI, zJ, zK, zL, lA, lB, lC, lD, Nat.zero_add]) <;> rfl, ?_⟩)) ?_ ?_ ?_
  · exact ⟨hfin, by simp⟩
  · rintro k s x hlt hx hx' hb ⟨hok, hsl⟩
    simp only [go_sem, zA, zB, zC, zD, zE, zF, zG, reduceCtorEq, zH, zI, zJ, zK, zL]
    obtain ⟨w, hw, hw', _, _⟩ := at_lt (enc := encVal) (l := [v]) (k := k) (by have := hll; omega)
    have hw2 : [encVal v][k]? = some (encVal w) := hw'
    have hmx : x ∈ g.kids := lP hx
    have hix := ih x hmx w (hws w (lP hw))
    have hct := cntPs_take hx
    have hcl := cntPs_le g.kids (k + 1)
    rw [refL_drop hx hw] at hok
    cases hr : refP x w with
    | none =>
      rw [hr] at hok hix
      rw [refR_none] at hix
      repeat' (first | (simp only [go_sem, zA, zB, zC, zD, zE, zF, zG, reduceCtorEq, zH, zI, zJ, zK, zL, encP_eq g, lB, hb]; all_goals fail_if_success guard_target =ₛ False) | (with_reducible first | ((first | refine yA rfl ?_ | refine yB rfl ?_ | refine yS ?_ | refine yT (by kernel_rfl) ?_ | refine yC rfl ?_ | refine yD rfl ?_ | refine yE rfl ?_ | refine yF rfl ?_ | refine yG rfl ?_ | refine yH rfl ?_); intro K hK) | (apply hK; clear hK K) | refine yU ?_ | (refine yV (by with_unfolding_all rfl) ?_ ?_ <;> intro h <;> (try simp only [zM, zN] at h) <;> try exact absurd h (by decide)) | refine yW ?_ | refine yX ?_ | refine yY ?_ | (refine ⟨fun h => ?_, fun h => ?_⟩ <;> (try simp only [zM, zN] at h) <;> try simp only [h]) | refine ⟨_, hix, ?_⟩ | refine ⟨by omega, encP x, hx', ?_⟩ | refine ⟨by omega, encVal w, hw', ?_⟩ | refine ⟨encVal w, hw2, ?_⟩ | refine ⟨by omega, encVal w, hw2, ?_⟩ | (refine xB (id := 24) 4 mixed (by kernel_rfl) fun K hK => ?_; simp only [lG, lH, lI, lJ]) | refine yZ mixed (by kernel_rfl) fun K hK => ?_ | refine ⟨(by kernel_rfl : depB _ _ _ = true), ?_⟩ | refine Or.inl ?_) | (clear hK K))
      all_goals (refine ⟨_, Gh.refl _, ?_⟩; simp only [go_sem, zA, zB, zC, zD, zE, zF, zG, reduceCtorEq, zH, zI, zJ, zK, zL]; refine fin0 ?_)
      all_goals (rw [hok]; rfl)
    | some a =>
      have hna := refP_names x w (treeP_kid hg hmx) a hr
      have hal : a.length ≤ cntP x := by have := congrArg List.length hna; rw [lB] at this; have := collP_len x; omega
      rw [hr] at hok hix
      rw [refR_some] at hix
      repeat' (first | (simp only [go_sem, zA, zB, zC, zD, zE, zF, zG, reduceCtorEq, zH, zI, zJ, zK, zL, encP_eq g, lB, encN_len, encW_len, encN_app, encW_app, hb]; all_goals fail_if_success guard_target =ₛ False) | (with_reducible first | ((first | refine yA rfl ?_ | refine yB rfl ?_ | refine yS ?_ | refine yT (by kernel_rfl) ?_ | refine yC rfl ?_ | refine yD rfl ?_ | refine yE rfl ?_ | refine yF rfl ?_ | refine yG rfl ?_ | refine yH rfl ?_); intro K hK) | (apply hK; clear hK K) | refine yU ?_ | (refine yV (by with_unfolding_all rfl) ?_ ?_ <;> intro h <;> (try simp only [zM, zN] at h) <;> try exact absurd h (by decide)) | refine yW ?_ | refine yX ?_ | refine yY ?_ | (refine ⟨fun h => ?_, fun h => ?_⟩ <;> (try simp only [zM, zN] at h) <;> try simp only [h]) | refine ⟨_, hix, ?_⟩ | refine ⟨by omega, encP x, hx', ?_⟩ | refine ⟨by omega, encVal w, hw', ?_⟩ | refine ⟨encVal w, hw2, ?_⟩ | refine ⟨by omega, encVal w, hw2, ?_⟩ | (refine ⟨(by rw [encN_len]; omega : _ ≤ _), ?_⟩) | refine ⟨(by omega : _ ≤ _), ?_⟩ | (refine ⟨(by first | omega | (simp only [lA, lB, lQ, List.length_drop, lC, lD, List.length_replicate]; omega) : _ ≤ _), ?_⟩) | refine ⟨by omega, by omega, ?_⟩ | (refine xB (id := 24) 4 mixed (by kernel_rfl) fun K hK => ?_; simp only [lG, lH, lI, lJ]) | refine yZ mixed (by kernel_rfl) fun K hK => ?_ | refine ⟨(by kernel_rfl : depB _ _ _ = true), ?_⟩ | refine Or.inl ?_) | (clear hK K))
      all_goals (rw [wrap_succ hlt hlen1])
      all_goals (refine ⟨s ++ a, ?_, (by refine xG [(901, 162), (902, 165)] ?_ ?_ rfl rfl rfl <;> repeat first | exact trivial | refine ⟨rfl, ?_⟩ | refine ⟨by (simp only [go_sem, zA, zB, zC, zD, zE, zF, zG, reduceCtorEq, zH, zI, zJ, zK, zL, lA, lB, lC, lD, Nat.zero_add]) <;> rfl, ?_⟩)⟩)
      all_goals (refine ⟨?_, by rw [lA]; omega⟩; rw [hok]; simp only [Option.map_map]; congr 1; funext z; simp)
  · rintro s hb ⟨hok, hsl⟩
    simp only [go_sem, zA, zB, zC, zD, zE, zF, zG, reduceCtorEq, zH, zI, zJ, zK, zL]
    rw [lL, refL_nil] at hok
    repeat' (first | (simp only [go_sem, zA, zB, zC, zD, zE, zF, zG, reduceCtorEq, zH, zI, zJ, zK, zL, encP_eq g, lB, hb]; all_goals fail_if_success guard_target =ₛ False) | (with_reducible first | ((first | refine yA rfl ?_ | refine yB rfl ?_ | refine yS ?_ | refine yT (by kernel_rfl) ?_ | refine yC rfl ?_ | refine yD rfl ?_ | refine yE rfl ?_ | refine yF rfl ?_ | refine yG rfl ?_ | refine yH rfl ?_); intro K hK) | (apply hK; clear hK K) | refine yU ?_ | (refine yV (by with_unfolding_all rfl) ?_ ?_ <;> intro h <;> (try simp only [zM, zN] at h) <;> try exact absurd h (by decide)) | refine yW ?_ | refine yX ?_ | refine yY ?_ | (refine ⟨fun h => ?_, fun h => ?_⟩ <;> (try simp only [zM, zN] at h) <;> try simp only [h]) | (refine xB (id := 24) 4 mixed (by kernel_rfl) fun K hK => ?_; simp only [lG, lH, lI, lJ]) | refine yZ mixed (by kernel_rfl) fun K hK => ?_ | refine ⟨(by kernel_rfl : depB _ _ _ = true), ?_⟩ | refine Or.inl ?_) | (clear hK K))
    refine GhQ.step (xH 901 rfl rfl (by simp only [go_sem, zA, zB, zC, zD, zE, zF, zG, reduceCtorEq, zH, zI, zJ, zK, zL, encN_len, encW_len]) (by simp only [go_sem, zA, zB, zC, zD, zE, zF, zG, reduceCtorEq, zH, zI, zJ, zK, zL, encN_len, encW_len])) ?_
    simp only [go_sem, zA, zB, zC, zD, zE, zF, zG, reduceCtorEq, zH, zI, zJ, zK, zL, encN_len, encW_len]
    refine ⟨_, xH 902 rfl rfl (by simp only [go_sem, zA, zB, zC, zD, zE, zF, zG, reduceCtorEq, zH, zI, zJ, zK, zL, encN_len, encW_len]) (by simp only [go_sem, zA, zB, zC, zD, zE, zF, zG, reduceCtorEq, zH, zI, zJ, zK, zL, encN_len, encW_len]), ?_⟩
    simp only [go_sem, zA, zB, zC, zD, zE, zF, zG, reduceCtorEq, zH, zI, zJ, zK, zL, encN_len, encW_len]
    all_goals (first | exact fun _ h => (by cases h) | refine fin0 ?_)
    all_goals (rw [hok]; simp [refR])
theorem cntPs_len : ∀ l : List Pat, l.length ≤ cntPs l
  | [] => by simp [cntPs]
  | g :: l => by have := cntPs_len l; have := cntP_eq g; simp only [cntPs, lC]; omega
theorem refM_9 (g : Pat) (v : Val) (hs : PSm g) (hg : treeP g = true) (hv : treeB v = true) (ih : ∀ k ∈ g.kids, ∀ w : Val, treeB w = true → PC zP 89 [.st (encP k), .st (encVal w)] (refR (refP k w))) (hk : g.kind = 9 ∧ g.keys.length = g.kids.length) : PC zP 89 [Pt g, Vt v] (refR (refP g v)) := by
  have hvp := vP_of hg
  have hce := cntP_eq g
  unfold PSm at hs
  obtain ⟨hk, hkk⟩ := hk
  cases hz : decide (v.kind = 8)
  ·
    rw [show refP g v = none from by rw [refP_eq, hk]; show (bif decide (v.kind = 8) then (match lookV g.keys v with | some ws => refL g.kids ws | none => none) else none) = none; rw [hz]; rfl]
    rw [refR_none]
    refine PCB.of_body Tryz.func89 rfl (by decide) Tryz.ntmps89 Tryz.results89 rfl rfl rfl ?_ rfl rfl
    repeat' (first | (simp only [go_sem, zA, zB, zC, zD, zE, zF, zG, reduceCtorEq, zH, zI, zJ, zK, zL, encP_eq g, encVal_eq v, hk, hz, lB]; all_goals fail_if_success guard_target =ₛ False) | (with_reducible first | ((first | refine yA rfl ?_ | refine yB rfl ?_ | refine yS ?_ | refine yT (by kernel_rfl) ?_ | refine yC rfl ?_ | refine yD rfl ?_ | refine yE rfl ?_ | refine yF rfl ?_ | refine yG rfl ?_ | refine yH rfl ?_); intro K hK) | (apply hK; clear hK K) | refine yU ?_ | (refine yV (by with_unfolding_all rfl) ?_ ?_ <;> intro h <;> (try simp only [zM, zN] at h) <;> try exact absurd h (by decide)) | refine yW ?_ | refine yX ?_ | refine yY ?_ | (refine ⟨fun h => ?_, fun h => ?_⟩ <;> (try simp only [zM, zN] at h) <;> try simp only [h]) | (refine xB (id := 24) 4 mixed (by kernel_rfl) fun K hK => ?_; simp only [lG, lH, lI, lJ]) | refine yZ mixed (by kernel_rfl) fun K hK => ?_ | refine ⟨(by kernel_rfl : depB _ _ _ = true), ?_⟩ | refine Or.inl ?_) | (clear hK K))
    refine xE 2 4 rfl rfl fun hlen0 => ?_
    (try rw [lB] at hlen0)
    refine xC (S := Unit) (g.keys) encKey (fun k s => (10, I .i64 (k : Nat)) :: [(9, .one (.dat (.nil 7)))]) (fun k s => []) [2, 3, 7, 8] [2, 3] (fun k s => True) (()) (by simp only [go_sem, zA, zB, zC, zD, zE, zF, zG, reduceCtorEq, zH, zI, zJ, zK, zL, encP_eq g, encVal_eq v]; exact (by refine xG [] ?_ ?_ rfl rfl rfl <;> repeat first | exact trivial | refine ⟨rfl, ?_⟩ | refine ⟨by (simp only [go_sem, zA, zB, zC, zD, zE, zF, zG, reduceCtorEq, zH, zI, zJ, zK, zL, lA, lB, lC, lD, Nat.zero_add]) <;> rfl, ?_⟩)) ?_ ?_ ?_
    · trivial
    · intro k s x hlt hx hx' hb hok
      simp only [go_sem, zA, zB, zC, zD, zE, zF, zG, reduceCtorEq, zH, zI, zJ, zK, zL]
      have hix := place_c v.keys x
      repeat' (first | (simp only [go_sem, zA, zB, zC, zD, zE, zF, zG, reduceCtorEq, zH, zI, zJ, zK, zL, encP_eq g, encVal_eq v, hz, lB, hb]; all_goals fail_if_success guard_target =ₛ False) | (with_reducible first | ((first | refine yA rfl ?_ | refine yB rfl ?_ | refine yS ?_ | refine yT (by kernel_rfl) ?_ | refine yC rfl ?_ | refine yD rfl ?_ | refine yE rfl ?_ | refine yF rfl ?_ | refine yG rfl ?_ | refine yH rfl ?_); intro K hK) | (apply hK; clear hK K) | refine yU ?_ | (refine yV (by with_unfolding_all rfl) ?_ ?_ <;> intro h <;> (try simp only [zM, zN] at h) <;> try exact absurd h (by decide)) | refine yW ?_ | refine yX ?_ | refine yY ?_ | (refine ⟨fun h => ?_, fun h => ?_⟩ <;> (try simp only [zM, zN] at h) <;> try simp only [h]) | refine ⟨_, hix, ?_⟩ | refine ⟨by omega, encKey x, hx', ?_⟩ | (refine xB (id := 24) 4 mixed (by kernel_rfl) fun K hK => ?_; simp only [lG, lH, lI, lJ]) | refine yZ mixed (by kernel_rfl) fun K hK => ?_ | refine ⟨(by kernel_rfl : depB _ _ _ = true), ?_⟩ | refine Or.inl ?_) | (clear hK K))
      all_goals (first | exact fun _ h => (by cases h) | refine fin0 ?_)
      all_goals rfl
    · intro s hb hok
      simp only [go_sem, zA, zB, zC, zD, zE, zF, zG, reduceCtorEq, zH, zI, zJ, zK, zL]
      repeat' (first | (simp only [go_sem, zA, zB, zC, zD, zE, zF, zG, reduceCtorEq, zH, zI, zJ, zK, zL, encP_eq g, encVal_eq v, hz, lB, hb]; all_goals fail_if_success guard_target =ₛ False) | (with_reducible first | ((first | refine yA rfl ?_ | refine yB rfl ?_ | refine yS ?_ | refine yT (by kernel_rfl) ?_ | refine yC rfl ?_ | refine yD rfl ?_ | refine yE rfl ?_ | refine yF rfl ?_ | refine yG rfl ?_ | refine yH rfl ?_); intro K hK) | (apply hK; clear hK K) | refine yU ?_ | (refine yV (by with_unfolding_all rfl) ?_ ?_ <;> intro h <;> (try simp only [zM, zN] at h) <;> try exact absurd h (by decide)) | refine yW ?_ | refine yX ?_ | refine yY ?_ | (refine ⟨fun h => ?_, fun h => ?_⟩ <;> (try simp only [zM, zN] at h) <;> try simp only [h]) | (refine xB (id := 24) 4 mixed (by kernel_rfl) fun K hK => ?_; simp only [lG, lH, lI, lJ]) | refine yZ mixed (by kernel_rfl) fun K hK => ?_ | refine ⟨(by kernel_rfl : depB _ _ _ = true), ?_⟩ | refine Or.inl ?_) | (clear hK K))
      all_goals (first | exact fun _ h => (by cases h) | refine fin0 ?_)
      all_goals rfl
  have hvk := treeB_map hv (of_decide_eq_true hz)
  have hm : refP g v = match lookV g.keys v with | some ws => refL g.kids ws | none => none := by
    rw [refP_eq, hk]; show (bif decide (v.kind = 8) then (match lookV g.keys v with | some ws => refL g.kids ws | none => none) else none) = _; rw [hz]; rfl
  refine PCB.of_body Tryz.func89 rfl (by decide) Tryz.ntmps89 Tryz.results89 rfl rfl rfl ?_ rfl rfl
  refine AWP.ghQ ?_
  repeat' (first | (simp only [go_sem, zA, zB, zC, zD, zE, zF, zG, reduceCtorEq, zH, zI, zJ, zK, zL, encP_eq g, encVal_eq v, hk, hz, lB]; all_goals fail_if_success guard_target =ₛ False) | (with_reducible first | ((first | refine yA rfl ?_ | refine yB rfl ?_ | refine yS ?_ | refine yT (by kernel_rfl) ?_ | refine yC rfl ?_ | refine yD rfl ?_ | refine yE rfl ?_ | refine yF rfl ?_ | refine yG rfl ?_ | refine yH rfl ?_); intro K hK) | (apply hK; clear hK K) | refine yU ?_ | (refine yV (by with_unfolding_all rfl) ?_ ?_ <;> intro h <;> (try simp only [zM, zN] at h) <;> try exact absurd h (by decide)) | refine yW ?_ | refine yX ?_ | refine yY ?_ | (refine ⟨fun h => ?_, fun h => ?_⟩ <;> (try simp only [zM, zN] at h) <;> try simp only [h]) | (refine xB (id := 24) 4 mixed (by kernel_rfl) fun K hK => ?_; simp only [lG, lH, lI, lJ]) | refine yZ mixed (by kernel_rfl) fun K hK => ?_ | refine ⟨(by kernel_rfl : depB _ _ _ = true), ?_⟩ | refine Or.inl ?_) | (clear hK K))
  refine xD (xI 9 903 rfl rfl rfl (by first | rfl | simp [Bx.fresh, freshs_dat])) ?_
  refine xE 2 4 rfl rfl fun hlen0 => ?_
  (try rw [lB] at hlen0)
  refine xC (S := List Val) (g.keys) encKey (fun k s => (10, I .i64 (k : Nat)) :: [(9, .one (.own 903 s.length))]) (fun k s => [(903, .row 7 (s.map encVal))]) [2, 3, 7, 8] [2, 3] (fun k s => lookV g.keys v = (lookV (g.keys.drop k) v).map (s ++ ·) ∧ s.length ≤ k) ([]) (by simp only [go_sem, zA, zB, zC, zD, zE, zF, zG, reduceCtorEq, zH, zI, zJ, zK, zL, encP_eq g, encVal_eq v]; exact (by refine xG [] ?_ ?_ rfl rfl rfl <;> repeat first | exact trivial | refine ⟨rfl, ?_⟩ | refine ⟨by (simp only [go_sem, zA, zB, zC, zD, zE, zF, zG, reduceCtorEq, zH, zI, zJ, zK, zL, lA, lB, lC, lD, Nat.zero_add]) <;> rfl, ?_⟩)) ?_ ?_ ?_
  · exact ⟨by simp, by simp⟩
  · rintro k s x hlt hx hx' hb ⟨hok, hsl⟩
    simp only [go_sem, zA, zB, zC, zD, zE, zF, zG, reduceCtorEq, zH, zI, zJ, zK, zL]
    have hix := place_c v.keys x
    have hkl : g.keys.length ≤ 100000000 := by have := cntPs_len g.kids; omega
    rw [lookV_drop hx] at hok
    rcases find_cases (fun y => sameK x y) v.keys 0 with h | ⟨n, h, _, h2⟩
    · have hva : valAt v x = none := by unfold valAt; rw [h]; rfl
      rw [hva] at hok
      rw [h] at hix
      repeat' (first | (simp only [go_sem, zA, zB, zC, zD, zE, zF, zG, reduceCtorEq, zH, zI, zJ, zK, zL, encP_eq g, encVal_eq v, hz, lB, hb]; all_goals fail_if_success guard_target =ₛ False) | (with_reducible first | ((first | refine yA rfl ?_ | refine yB rfl ?_ | refine yS ?_ | refine yT (by kernel_rfl) ?_ | refine yC rfl ?_ | refine yD rfl ?_ | refine yE rfl ?_ | refine yF rfl ?_ | refine yG rfl ?_ | refine yH rfl ?_); intro K hK) | (apply hK; clear hK K) | refine yU ?_ | (refine yV (by with_unfolding_all rfl) ?_ ?_ <;> intro h <;> (try simp only [zM, zN] at h) <;> try exact absurd h (by decide)) | refine yW ?_ | refine yX ?_ | refine yY ?_ | (refine ⟨fun h => ?_, fun h => ?_⟩ <;> (try simp only [zM, zN] at h) <;> try simp only [h]) | refine ⟨_, hix, ?_⟩ | refine ⟨by omega, encKey x, hx', ?_⟩ | (refine xB (id := 24) 4 mixed (by kernel_rfl) fun K hK => ?_; simp only [lG, lH, lI, lJ]) | refine yZ mixed (by kernel_rfl) fun K hK => ?_ | refine ⟨(by kernel_rfl : depB _ _ _ = true), ?_⟩ | refine Or.inl ?_) | (clear hK K))
      all_goals (refine ⟨_, Gh.refl _, ?_⟩; simp only [go_sem, zA, zB, zC, zD, zE, zF, zG, reduceCtorEq, zH, zI, zJ, zK, zL]; refine fin0 ?_)
      all_goals (rw [hm, hok]; rfl)
    · obtain ⟨w, hw, hw', _, _⟩ := at_lt (enc := encVal) (show n < v.kids.length by omega)
      have hneg : decide ((n : Int) < 0) = false := by simp only [decide_eq_false_iff_not]; omega
      have hva : valAt v x = some w := by unfold valAt; rw [h, hneg, cond_false, Int.toNat_natCast, hw]
      rw [hva] at hok
      rw [h] at hix
      repeat' (first | (simp only [go_sem, zA, zB, zC, zD, zE, zF, zG, reduceCtorEq, zH, zI, zJ, zK, zL, encP_eq g, encVal_eq v, hz, lB, hb, hneg, val_snoc1]; all_goals fail_if_success guard_target =ₛ False) | (with_reducible first | ((first | refine yA rfl ?_ | refine yB rfl ?_ | refine yS ?_ | refine yT (by kernel_rfl) ?_ | refine yC rfl ?_ | refine yD rfl ?_ | refine yE rfl ?_ | refine yF rfl ?_ | refine yG rfl ?_ | refine yH rfl ?_); intro K hK) | (apply hK; clear hK K) | refine yU ?_ | (refine yV (by with_unfolding_all rfl) ?_ ?_ <;> intro h <;> (try simp only [zM, zN] at h) <;> try exact absurd h (by decide)) | refine yW ?_ | refine yX ?_ | refine yY ?_ | (refine ⟨fun h => ?_, fun h => ?_⟩ <;> (try simp only [zM, zN] at h) <;> try simp only [h]) | refine ⟨_, hix, ?_⟩ | refine ⟨by omega, encKey x, hx', ?_⟩ | refine ⟨by omega, encVal w, hw', ?_⟩ | (refine ⟨(by first | omega | (simp only [lA, lB, lQ, List.length_drop, lC, lD, List.length_replicate]; omega) : _ ≤ _), ?_⟩) | refine ⟨by omega, by omega, ?_⟩ | (refine xB (id := 24) 4 mixed (by kernel_rfl) fun K hK => ?_; simp only [lG, lH, lI, lJ]) | refine yZ mixed (by kernel_rfl) fun K hK => ?_ | refine ⟨(by kernel_rfl : depB _ _ _ = true), ?_⟩ | refine Or.inl ?_) | (clear hK K))
      all_goals (rw [wrap_succ hlt hlen0])
      all_goals (refine ⟨s ++ [w], ?_, (by refine xG [(903, 133)] ?_ ?_ rfl rfl rfl <;> repeat first | exact trivial | refine ⟨rfl, ?_⟩ | refine ⟨by (simp only [go_sem, zA, zB, zC, zD, zE, zF, zG, reduceCtorEq, zH, zI, zJ, zK, zL, lA, lB, lC, lD, Nat.zero_add]) <;> rfl, ?_⟩)⟩)
      all_goals (refine ⟨?_, by simp; omega⟩; rw [hok]; simp only [Option.map_map]; congr 1; funext z; simp)
  rintro ws hb ⟨hok0, hsl0⟩
  simp only [go_sem, zA, zB, zC, zD, zE, zF, zG, reduceCtorEq, zH, zI, zJ, zK, zL]
  have hlw : lookV g.keys v = some ws := by rw [hok0, lL]; simp [lookV]
  obtain ⟨hl1, hl2⟩ := lookV_mem _ _ _ hlw
  have hll : ws.length = g.kids.length := by omega
  have hws : ∀ w ∈ ws, treeB w = true := fun w hw => treeB_kid hv (hl2 w hw)
  have hfin : refP g v = (refL g.kids ws).map ([] ++ ·) := by rw [hm, hlw]; simp
  clear hsl0
  refine xD (xH 903 rfl rfl (by simp only [go_sem, zA, zB, zC, zD, zE, zF, zG, reduceCtorEq, zH, zI, zJ, zK, zL, lB]) (by simp only [go_sem, zA, zB, zC, zD, zE, zF, zG, reduceCtorEq, zH, zI, zJ, zK, zL, lB])) ?_
  simp only [go_sem, zA, zB, zC, zD, zE, zF, zG, reduceCtorEq, zH, zI, zJ, zK, zL, lB]
  repeat' (first | (simp only [go_sem, zA, zB, zC, zD, zE, zF, zG, reduceCtorEq, zH, zI, zJ, zK, zL, encP_eq g, encVal_eq v, hz, lB, hb]; all_goals fail_if_success guard_target =ₛ False) | (with_reducible first | ((first | refine yA rfl ?_ | refine yB rfl ?_ | refine yS ?_ | refine yT (by kernel_rfl) ?_ | refine yC rfl ?_ | refine yD rfl ?_ | refine yE rfl ?_ | refine yF rfl ?_ | refine yG rfl ?_ | refine yH rfl ?_); intro K hK) | (apply hK; clear hK K) | refine yU ?_ | (refine yV (by with_unfolding_all rfl) ?_ ?_ <;> intro h <;> (try simp only [zM, zN] at h) <;> try exact absurd h (by decide)) | refine yW ?_ | refine yX ?_ | refine yY ?_ | (refine ⟨fun h => ?_, fun h => ?_⟩ <;> (try simp only [zM, zN] at h) <;> try simp only [h]) | (refine xB (id := 24) 4 mixed (by kernel_rfl) fun K hK => ?_; simp only [lG, lH, lI, lJ]) | refine yZ mixed (by kernel_rfl) fun K hK => ?_ | refine ⟨(by kernel_rfl : depB _ _ _ = true), ?_⟩ | refine Or.inl ?_) | (clear hK K))
  refine xD (xI 7 901 rfl rfl rfl (by first | rfl | simp [Bx.fresh, freshs_dat])) ?_
  refine xD (xI 8 902 rfl rfl rfl (by first | rfl | simp [Bx.fresh, freshs_dat])) ?_
  refine xE 2 3 rfl rfl fun hlen1 => ?_
  (try rw [lB] at hlen1)
  refine xC (S := ME) (g.kids) encP (fun k s => (12, I .i64 (k : Nat)) :: [(7, .one (.own 901 s.length)), (8, .one (.own 902 s.length)), (9, .one (.dat (.sl 7 (ws.map encVal))))]) (fun k s => [(901, .row 1 (encN s)), (902, .row 7 (encW s))]) [2] [2] (fun k s => refP g v = (refL (g.kids.drop k) (ws.drop k)).map (s ++ ·) ∧ s.length ≤ 1 + cntPs (g.kids.take k)) ([]) (by simp only [go_sem, zA, zB, zC, zD, zE, zF, zG, reduceCtorEq, zH, zI, zJ, zK, zL, encP_eq g]; exact (by refine xG [] ?_ ?_ rfl rfl rfl <;> repeat first | exact trivial | refine ⟨rfl, ?_⟩ | refine ⟨by (simp only [go_sem, zA, zB, zC, zD, zE, zF, zG, reduceCtorEq, zH, zI, zJ, zK, zL, lA, lB, lC, lD, Nat.zero_add]) <;> rfl, ?_⟩)) ?_ ?_ ?_
  · exact ⟨hfin, by simp⟩
  · rintro k s x hlt hx hx' hb ⟨hok, hsl⟩
    simp only [go_sem, zA, zB, zC, zD, zE, zF, zG, reduceCtorEq, zH, zI, zJ, zK, zL]
    obtain ⟨w, hw, hw', _, _⟩ := at_lt (enc := encVal) (l := ws) (k := k) (by have := hll; omega)
    have hmx : x ∈ g.kids := lP hx
    have hix := ih x hmx w (hws w (lP hw))
    have hct := cntPs_take hx
    have hcl := cntPs_le g.kids (k + 1)
    rw [refL_drop hx hw] at hok
    cases hr : refP x w with
    | none =>
      rw [hr] at hok hix
      rw [refR_none] at hix
      repeat' (first | (simp only [go_sem, zA, zB, zC, zD, zE, zF, zG, reduceCtorEq, zH, zI, zJ, zK, zL, encP_eq g, lB, hb]; all_goals fail_if_success guard_target =ₛ False) | (with_reducible first | ((first | refine yA rfl ?_ | refine yB rfl ?_ | refine yS ?_ | refine yT (by kernel_rfl) ?_ | refine yC rfl ?_ | refine yD rfl ?_ | refine yE rfl ?_ | refine yF rfl ?_ | refine yG rfl ?_ | refine yH rfl ?_); intro K hK) | (apply hK; clear hK K) | refine yU ?_ | (refine yV (by with_unfolding_all rfl) ?_ ?_ <;> intro h <;> (try simp only [zM, zN] at h) <;> try exact absurd h (by decide)) | refine yW ?_ | refine yX ?_ | refine yY ?_ | (refine ⟨fun h => ?_, fun h => ?_⟩ <;> (try simp only [zM, zN] at h) <;> try simp only [h]) | refine ⟨_, hix, ?_⟩ | refine ⟨by omega, encP x, hx', ?_⟩ | refine ⟨by omega, encVal w, hw', ?_⟩ | (refine xB (id := 24) 4 mixed (by kernel_rfl) fun K hK => ?_; simp only [lG, lH, lI, lJ]) | refine yZ mixed (by kernel_rfl) fun K hK => ?_ | refine ⟨(by kernel_rfl : depB _ _ _ = true), ?_⟩ | refine Or.inl ?_) | (clear hK K))
      all_goals (refine ⟨_, Gh.refl _, ?_⟩; simp only [go_sem, zA, zB, zC, zD, zE, zF, zG, reduceCtorEq, zH, zI, zJ, zK, zL]; refine fin0 ?_)
      all_goals (rw [hok]; rfl)
    | some a =>
      have hna := refP_names x w (treeP_kid hg hmx) a hr
      have hal : a.length ≤ cntP x := by have := congrArg List.length hna; rw [lB] at this; have := collP_len x; omega
      rw [hr] at hok hix
      rw [refR_some] at hix
      repeat' (first | (simp only [go_sem, zA, zB, zC, zD, zE, zF, zG, reduceCtorEq, zH, zI, zJ, zK, zL, encP_eq g, lB, encN_len, encW_len, encN_app, encW_app, hb]; all_goals fail_if_success guard_target =ₛ False) | (with_reducible first | ((first | refine yA rfl ?_ | refine yB rfl ?_ | refine yS ?_ | refine yT (by kernel_rfl) ?_ | refine yC rfl ?_ | refine yD rfl ?_ | refine yE rfl ?_ | refine yF rfl ?_ | refine yG rfl ?_ | refine yH rfl ?_); intro K hK) | (apply hK; clear hK K) | refine yU ?_ | (refine yV (by with_unfolding_all rfl) ?_ ?_ <;> intro h <;> (try simp only [zM, zN] at h) <;> try exact absurd h (by decide)) | refine yW ?_ | refine yX ?_ | refine yY ?_ | (refine ⟨fun h => ?_, fun h => ?_⟩ <;> (try simp only [zM, zN] at h) <;> try simp only [h]) | refine ⟨_, hix, ?_⟩ | refine ⟨by omega, encP x, hx', ?_⟩ | refine ⟨by omega, encVal w, hw', ?_⟩ | (refine ⟨(by rw [encN_len]; omega : _ ≤ _), ?_⟩) | refine ⟨(by omega : _ ≤ _), ?_⟩ | (refine ⟨(by first | omega | (simp only [lA, lB, lQ, List.length_drop, lC, lD, List.length_replicate]; omega) : _ ≤ _), ?_⟩) | refine ⟨by omega, by omega, ?_⟩ | (refine xB (id := 24) 4 mixed (by kernel_rfl) fun K hK => ?_; simp only [lG, lH, lI, lJ]) | refine yZ mixed (by kernel_rfl) fun K hK => ?_ | refine ⟨(by kernel_rfl : depB _ _ _ = true), ?_⟩ | refine Or.inl ?_) | (clear hK K))
      all_goals (rw [wrap_succ hlt hlen1])
      all_goals (refine ⟨s ++ a, ?_, (by refine xG [(901, 162), (902, 165)] ?_ ?_ rfl rfl rfl <;> repeat first | exact trivial | refine ⟨rfl, ?_⟩ | refine ⟨by (simp only [go_sem, zA, zB, zC, zD, zE, zF, zG, reduceCtorEq, zH, zI, zJ, zK, zL, lA, lB, lC, lD, Nat.zero_add]) <;> rfl, ?_⟩)⟩)
      all_goals (refine ⟨?_, by rw [lA]; omega⟩; rw [hok]; simp only [Option.map_map]; congr 1; funext z; simp)
  · rintro s hb ⟨hok, hsl⟩
    simp only [go_sem, zA, zB, zC, zD, zE, zF, zG, reduceCtorEq, zH, zI, zJ, zK, zL]
    rw [lL, refL_nil] at hok
    repeat' (first | (simp only [go_sem, zA, zB, zC, zD, zE, zF, zG, reduceCtorEq, zH, zI, zJ, zK, zL, encP_eq g, lB, hb]; all_goals fail_if_success guard_target =ₛ False) | (with_reducible first | ((first | refine yA rfl ?_ | refine yB rfl ?_ | refine yS ?_ | refine yT (by kernel_rfl) ?_ | refine yC rfl ?_ | refine yD rfl ?_ | refine yE rfl ?_ | refine yF rfl ?_ | refine yG rfl ?_ | refine yH rfl ?_); intro K hK) | (apply hK; clear hK K) | refine yU ?_ | (refine yV (by with_unfolding_all rfl) ?_ ?_ <;> intro h <;> (try simp only [zM, zN] at h) <;> try exact absurd h (by decide)) | refine yW ?_ | refine yX ?_ | refine yY ?_ | (refine ⟨fun h => ?_, fun h => ?_⟩ <;> (try simp only [zM, zN] at h) <;> try simp only [h]) | (refine xB (id := 24) 4 mixed (by kernel_rfl) fun K hK => ?_; simp only [lG, lH, lI, lJ]) | refine yZ mixed (by kernel_rfl) fun K hK => ?_ | refine ⟨(by kernel_rfl : depB _ _ _ = true), ?_⟩ | refine Or.inl ?_) | (clear hK K))
    refine GhQ.step (xH 901 rfl rfl (by simp only [go_sem, zA, zB, zC, zD, zE, zF, zG, reduceCtorEq, zH, zI, zJ, zK, zL, encN_len, encW_len]) (by simp only [go_sem, zA, zB, zC, zD, zE, zF, zG, reduceCtorEq, zH, zI, zJ, zK, zL, encN_len, encW_len])) ?_
    simp only [go_sem, zA, zB, zC, zD, zE, zF, zG, reduceCtorEq, zH, zI, zJ, zK, zL, encN_len, encW_len]
    refine ⟨_, xH 902 rfl rfl (by simp only [go_sem, zA, zB, zC, zD, zE, zF, zG, reduceCtorEq, zH, zI, zJ, zK, zL, encN_len, encW_len]) (by simp only [go_sem, zA, zB, zC, zD, zE, zF, zG, reduceCtorEq, zH, zI, zJ, zK, zL, encN_len, encW_len]), ?_⟩
    simp only [go_sem, zA, zB, zC, zD, zE, zF, zG, reduceCtorEq, zH, zI, zJ, zK, zL, encN_len, encW_len]
    all_goals (first | exact fun _ h => (by cases h) | refine fin0 ?_)
    all_goals (rw [hok]; simp [refR])
theorem refMatch_c (g : Pat) (v : Val) (hs : PSm g) (hg : treeP g = true) (hv : treeB v = true) : PC zP 89 [Pt g, Vt v] (refR (refP g v)) := by
  have ih : ∀ k ∈ g.kids, ∀ w : Val, treeB w = true → PC zP 89 [.st (encP k), .st (encVal w)] (refR (refP k w)) := fun k hk w hw => refMatch_c k w (hs.kid k hk) (treeP_kid hg hk) hw
  have hvp := vP_of hg
  rcases kindsP hvp with hk | hk | hk | hk | hk | hk | hk | hk | hk | hk
  · -- 1
    rw [refP_eq, hk]
    refine PCB.of_body Tryz.func89 rfl (by decide) Tryz.ntmps89 Tryz.results89 rfl rfl rfl ?_ rfl rfl
    repeat' (first | (simp only [go_sem, zA, zB, zC, zD, zE, zF, zG, reduceCtorEq, zH, zI, zJ, zK, zL, encP_eq g, encVal_eq v, hk, lB]; all_goals fail_if_success guard_target =ₛ False) | (with_reducible first | ((first | refine yA rfl ?_ | refine yB rfl ?_ | refine yS ?_ | refine yT (by kernel_rfl) ?_ | refine yC rfl ?_ | refine yD rfl ?_ | refine yE rfl ?_ | refine yF rfl ?_ | refine yG rfl ?_ | refine yH rfl ?_); intro K hK) | (apply hK; clear hK K) | refine yU ?_ | (refine yV (by with_unfolding_all rfl) ?_ ?_ <;> intro h <;> (try simp only [zM, zN] at h) <;> try exact absurd h (by decide)) | refine yW ?_ | refine yX ?_ | refine yY ?_ | (refine ⟨fun h => ?_, fun h => ?_⟩ <;> (try simp only [zM, zN] at h) <;> try simp only [h]) | (refine xB (id := 24) 4 mixed (by kernel_rfl) fun K hK => ?_; simp only [lG, lH, lI, lJ]) | refine yZ mixed (by kernel_rfl) fun K hK => ?_ | refine ⟨(by kernel_rfl : depB _ _ _ = true), ?_⟩ | refine Or.inl ?_) | (clear hK K))
    all_goals (first | exact fun _ h => (by cases h) | refine fin0 ?_)
    all_goals (try simp only [Int.reduceEq, zb, decide_true, decide_false, cond_true, cond_false, refR_b, *])
    all_goals (first | done | rfl)
  ·
    rw [show refP g v = some [(g.text, v)] from by rw [refP_eq, hk]; rfl]
    refine PCB.of_body Tryz.func89 rfl (by decide) Tryz.ntmps89 Tryz.results89 rfl rfl rfl ?_ rfl rfl
    repeat' (first | (simp only [go_sem, zA, zB, zC, zD, zE, zF, zG, reduceCtorEq, zH, zI, zJ, zK, zL, encP_eq g, encVal_eq v, hk, lB]; all_goals fail_if_success guard_target =ₛ False) | (with_reducible first | ((first | refine yA rfl ?_ | refine yB rfl ?_ | refine yS ?_ | refine yT (by kernel_rfl) ?_ | refine yC rfl ?_ | refine yD rfl ?_ | refine yE rfl ?_ | refine yF rfl ?_ | refine yG rfl ?_ | refine yH rfl ?_); intro K hK) | (apply hK; clear hK K) | refine yU ?_ | (refine yV (by with_unfolding_all rfl) ?_ ?_ <;> intro h <;> (try simp only [zM, zN] at h) <;> try exact absurd h (by decide)) | refine yW ?_ | refine yX ?_ | refine yY ?_ | (refine ⟨fun h => ?_, fun h => ?_⟩ <;> (try simp only [zM, zN] at h) <;> try simp only [h]) | (refine xB (id := 24) 4 mixed (by kernel_rfl) fun K hK => ?_; simp only [lG, lH, lI, lJ]) | refine yZ mixed (by kernel_rfl) fun K hK => ?_ | refine ⟨(by kernel_rfl : depB _ _ _ = true), ?_⟩ | refine Or.inl ?_) | (clear hK K))
    all_goals (first | exact fun _ h => (by cases h) | refine fin0 ?_)
    all_goals (show _ = T.tup [.one (.dat (.sl 1 [Sx.encStr g.text])), .one (.dat (.sl 7 [encVal v])), Bo true]; rw [encVal_eq v]; rfl)
  iterate 4
    ·
      rw [refP_eq, hk]
      refine PCB.of_body Tryz.func89 rfl (by decide) Tryz.ntmps89 Tryz.results89 rfl rfl rfl ?_ rfl rfl
      repeat' (first | (simp only [go_sem, zA, zB, zC, zD, zE, zF, zG, reduceCtorEq, zH, zI, zJ, zK, zL, encP_eq g, encVal_eq v, hk, lB]; all_goals fail_if_success guard_target =ₛ False) | (with_reducible first | ((first | refine yA rfl ?_ | refine yB rfl ?_ | refine yS ?_ | refine yT (by kernel_rfl) ?_ | refine yC rfl ?_ | refine yD rfl ?_ | refine yE rfl ?_ | refine yF rfl ?_ | refine yG rfl ?_ | refine yH rfl ?_); intro K hK) | (apply hK; clear hK K) | refine yU ?_ | (refine yV (by with_unfolding_all rfl) ?_ ?_ <;> intro h <;> (try simp only [zM, zN] at h) <;> try exact absurd h (by decide)) | refine yW ?_ | refine yX ?_ | refine yY ?_ | (refine ⟨fun h => ?_, fun h => ?_⟩ <;> (try simp only [zM, zN] at h) <;> try simp only [h]) | (refine xB (id := 24) 4 mixed (by kernel_rfl) fun K hK => ?_; simp only [lG, lH, lI, lJ]) | refine yZ mixed (by kernel_rfl) fun K hK => ?_ | refine ⟨(by kernel_rfl : depB _ _ _ = true), ?_⟩ | refine Or.inl ?_) | (clear hK K))
      all_goals (first | exact fun _ h => (by cases h) | refine fin0 ?_)
      all_goals (try simp only [Int.reduceEq, zb, decide_true, decide_false, cond_true, cond_false, refR_b, *])
      all_goals (first | done | rfl)
  · exact refM_7 g v hs hg hv ih hk
  · exact refM_8 g v hs hg hv ih hk
  · exact refM_9 g v hs hg hv ih hk
  · exact refM_10 g v hs hg hv ih hk
termination_by cntP g
decreasing_by exact cntP_kid hk
def putAll : ME → ME → ME
  | m, [] => m
  | m, p :: l => putAll (putV p.1 p.2 m) l
theorem putAll_app : ∀ (a m b : ME), putAll m (a ++ b) = putAll (putAll m a) b
  | [], m, b => rfl
  | p :: a, m, b => by rw [List.cons_append, putAll, putAll, putAll_app a]
theorem matchL_cons (g : Pat) (l : List Pat) (v : Val) (vs : List Val) (m : ME) : matchL (g :: l) (v :: vs) m = bif (matchP g v m).1 then matchL l vs (matchP g v m).2 else (false, (matchP g v m).2) := by rw [matchL]
theorem matchM_cons (k : KeyD) (ks : List KeyD) (g : Pat) (l : List Pat) (v : Val) (m : ME) : matchM (k :: ks) (g :: l) v m = match valAt v k with
    | some w => bif (matchP g w m).1 then matchM ks l v (matchP g w m).2 else (false, (matchP g w m).2)
    | none => (false, m) := by rw [matchM]; all_goals (cases valAt v k <;> rfl)
def RelM (r : Option ME) (f : ME → MR) : Prop := (∀ l, r = some l → ∀ m, f m = (true, putAll m l)) ∧ (r = none → ∀ m, (f m).1 = false)
theorem rel_L : ∀ (l : List Pat) (vs : List Val), l.length = vs.length → (∀ g ∈ l, ∀ w ∈ vs, RelM (refP g w) (matchP g w)) → RelM (refL l vs) (matchL l vs)
  | [], vs, _, _ => ⟨fun l h m => by rw [refL_nil] at h; cases h; rw [matchL_nil]; rfl, fun h => by rw [refL_nil] at h; cases h⟩
  | g :: l, [], hlen, _ => by simp at hlen
  | g :: l, v :: vs, hlen, h => by
    obtain ⟨a1, a2⟩ := h g (by simp) v (by simp)
    obtain ⟨b1, b2⟩ := rel_L l vs (by simpa using hlen) (fun g hg w hw => h g (List.mem_cons_of_mem _ hg) w (List.mem_cons_of_mem _ hw))
    have hR : refL (g :: l) (v :: vs) = match refP g v with | some a => (refL l vs).map (a ++ ·) | none => none := by rw [refL]; all_goals (cases refP g v <;> rfl)
    rw [hR]
    cases hr : refP g v with
    | none => exact ⟨fun l h => (by cases h), fun _ m => by rw [matchL_cons, a2 hr m]; rfl⟩
    | some a =>
      cases hl : refL l vs with
      | none => exact ⟨fun l h => (by cases h), fun _ m => by rw [matchL_cons, a1 a hr m]; exact b2 hl _⟩
      | some b =>
        refine ⟨fun l h m => ?_, fun h => by cases h⟩
        cases h
        rw [matchL_cons, a1 a hr m]
        exact (b1 b hl _).trans (by rw [putAll_app])
theorem rel_M : ∀ (ks : List KeyD) (l : List Pat) (v : Val), ks.length = l.length → (∀ g ∈ l, ∀ w ∈ v.kids, RelM (refP g w) (matchP g w)) → RelM (match lookV ks v with | some ws => refL l ws | none => none) (matchM ks l v)
  | [], l, v, hlen, _ => by
    have : l = [] := List.length_eq_zero_iff.1 (by simpa using hlen.symm)
    subst this
    exact ⟨fun l h m => (by cases h; rfl), fun h => by cases h⟩
  | k :: ks, [], v, hlen, _ => by simp at hlen
  | k :: ks, g :: l, v, hlen, h => by
    have h2 := rel_M ks l v (by simpa using hlen) (fun g hg w hw => h g (List.mem_cons_of_mem _ hg) w hw)
    have hL : lookV (k :: ks) v = match valAt v k with | some w => (lookV ks v).map (w :: ·) | none => none := by rw [lookV]; all_goals (cases valAt v k <;> rfl)
    rw [hL]
    cases hv : valAt v k with
    | none => exact ⟨fun l h => (by cases h), fun _ m => by rw [matchM_cons, hv]⟩
    | some w =>
      obtain ⟨a1, a2⟩ := h g (by simp) w (valAt_mem hv)
      cases hl : lookV ks v with
      | none =>
        rw [hl] at h2
        refine ⟨fun l h => (by cases h), fun _ m => ?_⟩
        rw [matchM_cons, hv]
        show (bif (matchP g w m).1 then matchM ks l v (matchP g w m).2 else (false, (matchP g w m).2)).1 = false
        cases (matchP g w m).1
        · rfl
        · exact h2.2 rfl _
      | some ws =>
        rw [hl] at h2
        obtain ⟨b1, b2⟩ : RelM (refL l ws) (matchM ks l v) := h2
        show RelM (refL (g :: l) (w :: ws)) (matchM (k :: ks) (g :: l) v)
        have hR : refL (g :: l) (w :: ws) = match refP g w with | some a => (refL l ws).map (a ++ ·) | none => none := by rw [refL]; all_goals (cases refP g w <;> rfl)
        rw [hR]
        cases hr : refP g w with
        | none => exact ⟨fun l h => (by cases h), fun _ m => by rw [matchM_cons, hv]; show (bif (matchP g w m).1 then matchM ks l v (matchP g w m).2 else (false, (matchP g w m).2)).1 = false; rw [a2 hr m]; rfl⟩
        | some a =>
          cases hb : refL l ws with
          | none => exact ⟨fun l h => (by cases h), fun _ m => by rw [matchM_cons, hv]; show (bif (matchP g w m).1 then matchM ks l v (matchP g w m).2 else (false, (matchP g w m).2)).1 = false; rw [a1 a hr m]; exact b2 hb _⟩
          | some b =>
            refine ⟨fun l h m => ?_, fun h => by cases h⟩
            cases h
            rw [matchM_cons, hv]
            show (bif (matchP g w m).1 then matchM ks l v (matchP g w m).2 else (false, (matchP g w m).2)) = (true, putAll m (a ++ b))
            rw [a1 a hr m]
            exact (b1 b hb _).trans (by rw [putAll_app])
theorem rel_b (b : Bool) : RelM (bif b then some [] else none) (fun m => (b, m)) := by
  cases b
  · exact ⟨fun l h => (by cases h), fun _ m => rfl⟩
  · exact ⟨fun l h m => (by cases h; rfl), fun h => by cases h⟩
theorem rel_none (f : ME → MR) (h : ∀ m, (f m).1 = false) : RelM none f := ⟨fun l h => (by cases h), fun _ m => h m⟩
theorem rel_some (a : ME) (f : ME → MR) (h : ∀ m, f m = (true, putAll m a)) : RelM (some a) f := ⟨fun l e m => (by cases e; exact h m), fun h => by cases h⟩
theorem rel_P (g : Pat) (v : Val) (hg : treeP g = true) (hv : treeB v = true) : RelM (refP g v) (matchP g v) := by
  have ih : ∀ k ∈ g.kids, ∀ w : Val, treeB w = true → RelM (refP k w) (matchP k w) := fun k hk w hw => rel_P k w (treeP_kid hg hk) hw
  have hf : matchP g v = fun m => matchP g v m := rfl
  rw [hf]
  simp only [matchP_eq]
  rw [refP_eq]
  rcases kindsP (vP_of hg) with hk | hk | hk | hk | hk | hk | hk | hk | ⟨hk, hkk⟩ | ⟨hk, k0, hk0⟩
  · rw [hk]; exact rel_some [] _ fun m => rfl
  · rw [hk]; exact rel_some [(g.text, v)] _ fun m => rfl
  · rw [hk]; exact rel_b _
  · rw [hk]; exact rel_b _
  · rw [hk]; exact rel_b _
  · rw [hk]; exact rel_b _
  · rw [hk]
    show RelM (bif decide (v.kind = 6) && decide (g.kids.length = v.kids.length) then refL g.kids v.kids else none) (fun m => bif decide (v.kind = 6) && decide (g.kids.length = v.kids.length) then matchL g.kids v.kids m else (false, m))
    cases hz : decide (v.kind = 6) && decide (g.kids.length = v.kids.length)
    · exact rel_none _ fun m => rfl
    · rw [Bool.and_eq_true, decide_eq_true_eq, decide_eq_true_eq] at hz
      exact rel_L g.kids v.kids hz.2 fun k hk w hw => ih k hk w (treeB_kid hv hw)
  · rw [hk]
    show RelM (bif decide (v.kind = 7) && decide (g.kids.length = v.kids.length) then refL g.kids v.kids else none) (fun m => bif decide (v.kind = 7) && decide (g.kids.length = v.kids.length) then matchL g.kids v.kids m else (false, m))
    cases hz : decide (v.kind = 7) && decide (g.kids.length = v.kids.length)
    · exact rel_none _ fun m => rfl
    · rw [Bool.and_eq_true, decide_eq_true_eq, decide_eq_true_eq] at hz
      exact rel_L g.kids v.kids hz.2 fun k hk w hw => ih k hk w (treeB_kid hv hw)
  · rw [hk]
    show RelM (bif decide (v.kind = 8) then (match lookV g.keys v with | some ws => refL g.kids ws | none => none) else none) (fun m => bif decide (v.kind = 8) then matchM g.keys g.kids v m else (false, m))
    cases hz : decide (v.kind = 8)
    · exact rel_none _ fun m => rfl
    · exact rel_M g.keys g.kids v hkk fun k hk w hw => ih k hk w (treeB_kid hv hw)
  · rw [hk, hk0]
    have h0 := ih k0 (by rw [hk0]; simp) v hv
    show RelM ((refP k0 v).map ((g.text, v) :: ·)) (fun m => matchP k0 v (putV g.text v m))
    cases hr : refP k0 v with
    | none => exact rel_none _ fun m => h0.2 hr _
    | some a => exact rel_some _ _ fun m => h0.1 a hr _
termination_by cntP g
decreasing_by exact cntP_kid hk
def pickV (l : ME) (n : List UInt8) : List Val := l.flatMap fun p => bif decide (p.1 = n) then [p.2] else []
theorem getV_all : ∀ (l m : ME) (n : List UInt8), n ∉ l.map (·.1) → getV n (putAll m l) = getV n m
  | [], m, n, _ => rfl
  | p :: l, m, n, h => by
    simp only [lE, List.mem_cons, not_or] at h
    rw [putAll, getV_all l _ n h.2, getV_put, if_neg (fun e => h.1 e.symm)]
theorem getV_mem : ∀ (l m : ME) (n : List UInt8) (w : Val), (l.map (·.1)).Nodup → (n, w) ∈ l → getV n (putAll m l) = some w
  | p :: l, m, n, w, hn, h => by
    simp only [lE, List.nodup_cons] at hn
    rw [putAll]
    rcases List.mem_cons.1 h with rfl | h
    · rw [getV_all l _ n hn.1, getV_put, if_pos rfl]
    · exact getV_mem l _ n w hn.2 h
theorem pick_none : ∀ (l : ME) (n : List UInt8), n ∉ l.map (·.1) → pickV l n = []
  | [], n, _ => rfl
  | p :: l, n, h => by
    simp only [lE, List.mem_cons, not_or] at h
    have ih := pick_none l n h.2
    unfold pickV at ih ⊢
    rw [List.flatMap_cons, ih, decide_eq_false (fun e => h.1 e.symm)]; rfl
theorem pick_one : ∀ (l : ME) (n : List UInt8) (w : Val), (l.map (·.1)).Nodup → (n, w) ∈ l → pickV l n = [w]
  | p :: l, n, w, hn, h => by
    simp only [lE, List.nodup_cons] at hn
    rcases List.mem_cons.1 h with rfl | h
    · have ih := pick_none l n hn.1
      unfold pickV at ih ⊢
      rw [List.flatMap_cons, ih, decide_eq_true rfl]; rfl
    · have ih := pick_one l n w hn.2 h
      have hne : ¬ p.1 = n := fun e => hn.1 (by rw [e]; exact List.mem_map.2 ⟨_, h, rfl⟩)
      unfold pickV at ih ⊢
      rw [List.flatMap_cons, ih, decide_eq_false hne]; rfl
theorem out_eq (l : ME) (hn : (l.map (·.1)).Nodup) : ∀ L : List (List UInt8), (∀ n ∈ L, n ∈ l.map (·.1)) → L.flatMap (pickV l) = L.map (atM (putAll [] l))
  | [], _ => rfl
  | n :: L, h => by
    obtain ⟨p, hp, hpn⟩ := List.mem_map.1 (h n (by simp))
    have hm : (n, p.2) ∈ l := by rw [← hpn]; exact hp
    rw [List.flatMap_cons, lE, out_eq l hn L (fun n hn => h n (List.mem_cons_of_mem _ hn)), pick_one l n p.2 hn hm, atM, getV_mem l [] n p.2 hn hm]; rfl
theorem coll_nodup {g : Pat} (h : okP g = true) : (collP g).Nodup := by
  have h1 := sorted_nodup (collP g) (okP_dup h)
  have h2 := List.mergeSort_perm (collP g) (fun x y => decide (x ≤ y))
  rw [h1] at h2
  have h3 : (sortedV (collP g)).Nodup := (sortedV_spec _).1.imp fun hab e => by subst e; exact absurd hab (List.lt_irrefl _)
  exact h2.nodup_iff.1 h3
theorem matchV_ref (g : Pat) (v : Val) (hv : treeB v = true) : matchV g v = match refP (soundP g) v with
    | some l => ((namesP g).flatMap (pickV l), true)
    | none => ([], false) := by
  have hok := soundP_ok g
  have h := rel_P (soundP g) v (okP_tree hok) hv
  unfold matchV
  rw [hv, Bool.true_and]
  cases hr : refP (soundP g) v with
  | none =>
    have h' : (matchP (soundP g) v []).1 = false := h.2 hr []
    rw [h']; rfl
  | some l =>
    have h' : matchP (soundP g) v [] = (true, putAll [] l) := h.1 l hr []
    have hn := refP_names (soundP g) v (okP_tree hok) l hr
    rw [h']
    show ((namesP g).map (atM (putAll [] l)), true) = ((namesP g).flatMap (pickV l), true)
    rw [out_eq l (by rw [hn]; exact coll_nodup hok) (namesP g) (fun n h => by rw [hn]; exact ((sortedV_spec _).2 n).1 h)]
theorem pickV_take {l : ME} {n : List UInt8} {j : Nat} {p : List UInt8 × Val} (hp : l[j]? = some p) : pickV (l.take (j + 1)) n = pickV (l.take j) n ++ (bif decide (p.1 = n) then [p.2] else []) := by
  unfold pickV
  rw [List.take_add_one, hp, List.flatMap_append]; simp
theorem MatchPattern_c (g : Pat) (v : Val) (hg : PSm g) (hv : Sm v) : PC zP 51 [Pt g, Vt v] (.tup [VsP (matchV g v).1, Bo (matchV g v).2]) := by
  have hs := soundP_sm g
  have h1 : PC zP 82 [.st (encP g)] (Pt (soundP g)) := taken_c g hg
  have h2 := valid_c v
  cases hz : treeB v <;> rw [hz] at h2
  case false =>
    rw [show matchV g v = ([], false) from by unfold matchV; rw [hz]; rfl]
    refine PCB.of_body Tryz.func51 rfl (by decide) Tryz.ntmps51 Tryz.results51 rfl rfl rfl ?_ rfl rfl
    repeat' (first | (simp only [go_sem, zA, zB, zC, zD, zE, zF, zG, reduceCtorEq, zH, zI, zJ, zK, zL]; all_goals fail_if_success guard_target =ₛ False) | (with_reducible first | ((first | refine yA rfl ?_ | refine yS ?_ | refine yT (by kernel_rfl) ?_ | refine yC rfl ?_ | refine yE rfl ?_ | refine yG rfl ?_); intro K hK) | (apply hK; clear hK K) | refine yU ?_ | (refine yV (by with_unfolding_all rfl) ?_ ?_ <;> intro h <;> (try simp only [zM, zN] at h) <;> try exact absurd h (by decide)) | refine yW ?_ | refine yX ?_ | refine yY ?_ | refine ⟨_, h1, ?_⟩ | refine ⟨_, h2, ?_⟩ | refine yZ mixed (by kernel_rfl) fun K hK => ?_ | refine ⟨(by kernel_rfl : depB _ _ _ = true), ?_⟩ | refine Or.inl ?_) | (clear hK K))
    all_goals (first | exact fun _ h => (by cases h) | (refine fin0 ?_; first | rfl | (simp only [zb, cond_true, cond_false, decide_true, decide_false] <;> rfl)))
  have hok := soundP_ok g
  have ht := okP_tree hok
  have h3 : PC zP 89 [.st (encP (soundP g)), .st (encVal v)] (refR (refP (soundP g) v)) := refMatch_c (soundP g) v hs ht hz
  have hmv := matchV_ref g v hz
  cases hr : refP (soundP g) v with
  | none =>
    rw [hr] at h3 hmv
    rw [refR_none] at h3
    rw [hmv]
    refine PCB.of_body Tryz.func51 rfl (by decide) Tryz.ntmps51 Tryz.results51 rfl rfl rfl ?_ rfl rfl
    repeat' (first | (simp only [go_sem, zA, zB, zC, zD, zE, zF, zG, reduceCtorEq, zH, zI, zJ, zK, zL]; all_goals fail_if_success guard_target =ₛ False) | (with_reducible first | ((first | refine yA rfl ?_ | refine yS ?_ | refine yT (by kernel_rfl) ?_ | refine yC rfl ?_ | refine yE rfl ?_ | refine yG rfl ?_); intro K hK) | (apply hK; clear hK K) | refine yU ?_ | (refine yV (by with_unfolding_all rfl) ?_ ?_ <;> intro h <;> (try simp only [zM, zN] at h) <;> try exact absurd h (by decide)) | refine yW ?_ | refine yX ?_ | refine yY ?_ | refine ⟨_, h1, ?_⟩ | refine ⟨_, h2, ?_⟩ | refine ⟨_, h3, ?_⟩ | refine yZ mixed (by kernel_rfl) fun K hK => ?_ | refine ⟨(by kernel_rfl : depB _ _ _ = true), ?_⟩ | refine Or.inl ?_) | (clear hK K))
    all_goals (first | exact fun _ h => (by cases h) | (refine fin0 ?_; first | rfl | (simp only [zb, cond_true, cond_false, decide_true, decide_false] <;> rfl)))
  | some l =>
    rw [hr] at h3 hmv
    rw [refR_some] at h3
    have hn := refP_names (soundP g) v ht l hr
    have hl40 : l.length ≤ 40 := by
      have h5 := collP_len (soundP g)
      have h6 := okP_cnt hok
      have h7 := congrArg List.length hn
      rw [lB] at h7
      omega
    have h4 := sorted_c (l.map (·.1)) (by rw [lB]; omega)
    have hnm : sortedV (l.map (·.1)) = namesP g := by rw [hn]; rfl
    rw [hnm, List.map_map] at h4
    have h4' : PC zP 60 [.one (.dat (.sl 1 (l.map fun p => Sx.encStr p.1)))] (.one (.dat (.sl 1 ((namesP g).map Sx.encStr)))) := h4
    have hlL : (namesP g).length ≤ 40 := by
      have h5 := sorted_len (l.map (·.1))
      rw [hnm, lB] at h5; omega
    simp only [encN, encW] at h3
    have hmv' : matchV g v = ((namesP g).flatMap (pickV l), true) := hmv
    rw [hmv']
    clear hmv hmv' h4 hnm hn hr
    generalize namesP g = L at *
    refine PCB.of_body Tryz.func51 rfl (by decide) Tryz.ntmps51 Tryz.results51 rfl rfl rfl ?_ rfl rfl
    refine AWP.ghQ ?_
    repeat' (first | (simp only [go_sem, zA, zB, zC, zD, zE, zF, zG, reduceCtorEq, zH, zI, zJ, zK, zL]; all_goals fail_if_success guard_target =ₛ False) | (with_reducible first | ((first | refine yA rfl ?_ | refine yS ?_ | refine yT (by kernel_rfl) ?_ | refine yC rfl ?_ | refine yE rfl ?_ | refine yG rfl ?_); intro K hK) | (apply hK; clear hK K) | refine yU ?_ | (refine yV (by with_unfolding_all rfl) ?_ ?_ <;> intro h <;> (try simp only [zM, zN] at h) <;> try exact absurd h (by decide)) | refine yW ?_ | refine yX ?_ | refine yY ?_ | refine ⟨_, h1, ?_⟩ | refine ⟨_, h2, ?_⟩ | refine ⟨_, h3, ?_⟩ | refine ⟨_, h4', ?_⟩ | refine yZ mixed (by kernel_rfl) fun K hK => ?_ | refine ⟨(by kernel_rfl : depB _ _ _ = true), ?_⟩ | refine Or.inl ?_) | (clear hK K))
    refine xD (xI 10 900 rfl rfl rfl (by first | rfl | simp [Bx.fresh, freshs_dat])) ?_
    refine AWP.len 9 rfl fun hlen0 => ?_
    (try rw [lB] at hlen0)
    refine xC (S := List Val) (L) Sx.encStr (fun k s => (11, I .i64 (k : Nat)) :: [(10, .one (.own 900 s.length))]) (fun k s => [(900, .row 7 (s.map encVal))]) [6, 7, 9] [] (fun k s => Is s ((L.take k).flatMap (pickV l)) ∧ s.length ≤ k * 40) ([]) (by simp only [go_sem, zA, zB, zC, zD, zE, zF, zG, reduceCtorEq, zH, zI, zJ, zK, zL]; exact (by refine xG [] ?_ ?_ rfl rfl rfl <;> repeat first | exact trivial | refine ⟨rfl, ?_⟩ | refine ⟨by (simp only [go_sem, zA, zB, zC, zD, zE, zF, zG, reduceCtorEq, zH, zI, zJ, zK, zL, lA, lB, lC, lD, Nat.zero_add]) <;> rfl, ?_⟩)) ?_ ?_ ?_
    · exact ⟨rfl, by simp⟩
    · rintro k s x hlt hx hx' hb ⟨hok1, hsl⟩
      have hltO := hlt
      simp only [go_sem, zA, zB, zC, zD, zE, zF, zG, reduceCtorEq, zH, zI, zJ, zK, zL]
      repeat' (first | (simp only [go_sem, zA, zB, zC, zD, zE, zF, zG, reduceCtorEq, zH, zI, zJ, zK, zL, lB, hb]; all_goals fail_if_success guard_target =ₛ False) | (with_reducible first | ((first | refine yA rfl ?_ | refine yS ?_ | refine yT (by kernel_rfl) ?_ | refine yC rfl ?_ | refine yE rfl ?_ | refine yG rfl ?_); intro K hK) | (apply hK; clear hK K) | refine yU ?_ | (refine yV (by with_unfolding_all rfl) ?_ ?_ <;> intro h <;> (try simp only [zM, zN] at h) <;> try exact absurd h (by decide)) | refine yW ?_ | refine yX ?_ | refine yY ?_ | refine yZ mixed (by kernel_rfl) fun K hK => ?_ | refine ⟨(by kernel_rfl : depB _ _ _ = true), ?_⟩ | refine Or.inl ?_) | (clear hK K))
      refine AWP.len 6 rfl fun hlen1 => ?_
      (try rw [lB] at hlen1)
      refine xC (S := List Val) (l) (fun p : List UInt8 × Val => Sx.encStr p.1) (fun j t => (12, I .i64 (j : Nat)) :: [(10, .one (.own 900 t.length))]) (fun j t => [(900, .row 7 (t.map encVal))]) [6, 7, 9, 11] [] (fun j t => Is t (s ++ pickV (l.take j) x) ∧ t.length ≤ k * 40 + j) (s) (by simp only [go_sem, zA, zB, zC, zD, zE, zF, zG, reduceCtorEq, zH, zI, zJ, zK, zL]; exact (by refine xG [] ?_ ?_ rfl rfl rfl <;> repeat first | exact trivial | refine ⟨rfl, ?_⟩ | refine ⟨by (simp only [go_sem, zA, zB, zC, zD, zE, zF, zG, reduceCtorEq, zH, zI, zJ, zK, zL, lA, lB, lC, lD, Nat.zero_add]) <;> rfl, ?_⟩)) ?_ ?_ ?_
      · exact ⟨by simp [Is, pickV], by omega⟩
      · rintro j t p hlt hp hp' hb2 ⟨hok2, htl⟩
        simp only [go_sem, zA, zB, zC, zD, zE, zF, zG, reduceCtorEq, zH, zI, zJ, zK, zL]
        have hpt := pickV_take (n := x) hp
        have hpw : (l.map fun p => encVal p.2)[j]? = some (encVal p.2) := by rw [List.getElem?_map, hp]; rfl
        have hp3 : (l.map fun p => [C.str p.1])[j]? = some [C.str p.1] := hp'
        cases hd : decide (p.1 = x)
        ·
          repeat' (first | (simp only [go_sem, zA, zB, zC, zD, zE, zF, zG, reduceCtorEq, zH, zI, zJ, zK, zL, lB, hb2, hd, Sx.encStr]; all_goals fail_if_success guard_target =ₛ False) | (with_reducible first | ((first | refine yA rfl ?_ | refine yS ?_ | refine yT (by kernel_rfl) ?_ | refine yC rfl ?_ | refine yE rfl ?_ | refine yG rfl ?_); intro K hK) | (apply hK; clear hK K) | refine yU ?_ | (refine yV (by with_unfolding_all rfl) ?_ ?_ <;> intro h <;> (try simp only [zM, zN] at h) <;> try exact absurd h (by decide)) | refine yW ?_ | refine yX ?_ | refine yY ?_ | refine ⟨by omega, [C.str p.1], hp3, ?_⟩ | refine ⟨by omega, Sx.encStr x, hx', ?_⟩ | refine yZ mixed (by kernel_rfl) fun K hK => ?_ | refine ⟨(by kernel_rfl : depB _ _ _ = true), ?_⟩ | refine Or.inl ?_) | (clear hK K))
          all_goals (rw [wrap_succ hlt hlen1])
          all_goals (refine ⟨t, ?_, (by refine xG [] ?_ ?_ rfl rfl rfl <;> repeat first | exact trivial | refine ⟨rfl, ?_⟩ | refine ⟨by (simp only [go_sem, zA, zB, zC, zD, zE, zF, zG, reduceCtorEq, zH, zI, zJ, zK, zL, lA, lB, lC, lD, Nat.zero_add]) <;> rfl, ?_⟩)⟩)
          all_goals (refine ⟨?_, by omega⟩; rw [Is, hpt, hd, cond_false, List.append_nil]; exact hok2)
        ·
          repeat' (first | (simp only [go_sem, zA, zB, zC, zD, zE, zF, zG, reduceCtorEq, zH, zI, zJ, zK, zL, lB, hb2, hd, Sx.encStr, val_snoc1]; all_goals fail_if_success guard_target =ₛ False) | (with_reducible first | ((first | refine yA rfl ?_ | refine yS ?_ | refine yT (by kernel_rfl) ?_ | refine yC rfl ?_ | refine yE rfl ?_ | refine yG rfl ?_); intro K hK) | (apply hK; clear hK K) | refine yU ?_ | (refine yV (by with_unfolding_all rfl) ?_ ?_ <;> intro h <;> (try simp only [zM, zN] at h) <;> try exact absurd h (by decide)) | refine yW ?_ | refine yX ?_ | refine yY ?_ | refine ⟨by omega, [C.str p.1], hp3, ?_⟩ | refine ⟨by omega, Sx.encStr x, hx', ?_⟩ | refine ⟨by omega, encVal p.2, hpw, ?_⟩ | (refine ⟨(by first | omega | (simp only [lA, lB, lQ, List.length_drop, lC, lD, List.length_replicate]; omega) : _ ≤ _), ?_⟩) | refine ⟨by omega, by omega, ?_⟩ | refine yZ mixed (by kernel_rfl) fun K hK => ?_ | refine ⟨(by kernel_rfl : depB _ _ _ = true), ?_⟩ | refine Or.inl ?_) | (clear hK K))
          all_goals (rw [wrap_succ hlt hlen1])
          all_goals (refine ⟨t ++ [p.2], ?_, (by refine xG [(900, 56)] ?_ ?_ rfl rfl rfl <;> repeat first | exact trivial | refine ⟨rfl, ?_⟩ | refine ⟨by (simp only [go_sem, zA, zB, zC, zD, zE, zF, zG, reduceCtorEq, zH, zI, zJ, zK, zL, lA, lB, lC, lD, Nat.zero_add]) <;> rfl, ?_⟩)⟩)
          all_goals (refine ⟨?_, by simp; omega⟩; rw [Is, hpt, hd, show t = _ from hok2]; simp)
      · rintro t hb2 ⟨hok2, htl⟩
        simp only [go_sem, zA, zB, zC, zD, zE, zF, zG, reduceCtorEq, zH, zI, zJ, zK, zL]
        rw [List.take_length] at hok2
        repeat' (first | (simp only [go_sem, zA, zB, zC, zD, zE, zF, zG, reduceCtorEq, zH, zI, zJ, zK, zL, lB, hb2]; all_goals fail_if_success guard_target =ₛ False) | (with_reducible first | ((first | refine yA rfl ?_ | refine yS ?_ | refine yT (by kernel_rfl) ?_ | refine yC rfl ?_ | refine yE rfl ?_ | refine yG rfl ?_); intro K hK) | (apply hK; clear hK K) | refine yU ?_ | (refine yV (by with_unfolding_all rfl) ?_ ?_ <;> intro h <;> (try simp only [zM, zN] at h) <;> try exact absurd h (by decide)) | refine yW ?_ | refine yX ?_ | refine yY ?_ | refine yZ mixed (by kernel_rfl) fun K hK => ?_ | refine ⟨(by kernel_rfl : depB _ _ _ = true), ?_⟩ | refine Or.inl ?_) | (clear hK K))
        all_goals (rw [wrap_succ hlt hlen0])
        all_goals (refine ⟨t, ?_, (by refine xG [] ?_ ?_ rfl rfl rfl <;> repeat first | exact trivial | refine ⟨rfl, ?_⟩ | refine ⟨by (simp only [go_sem, zA, zB, zC, zD, zE, zF, zG, reduceCtorEq, zH, zI, zJ, zK, zL, lA, lB, lC, lD, Nat.zero_add]) <;> rfl, ?_⟩)⟩)
        all_goals (refine ⟨?_, by omega⟩; rw [Is, List.take_add_one, hx, List.flatMap_append, show t = _ from hok2, show s = _ from hok1]; simp)
    · rintro s hb ⟨hok1, hsl⟩
      simp only [go_sem, zA, zB, zC, zD, zE, zF, zG, reduceCtorEq, zH, zI, zJ, zK, zL]
      rw [List.take_length] at hok1
      repeat' (first | (simp only [go_sem, zA, zB, zC, zD, zE, zF, zG, reduceCtorEq, zH, zI, zJ, zK, zL, lB, hb]; all_goals fail_if_success guard_target =ₛ False) | (with_reducible first | ((first | refine yA rfl ?_ | refine yS ?_ | refine yT (by kernel_rfl) ?_ | refine yC rfl ?_ | refine yE rfl ?_ | refine yG rfl ?_); intro K hK) | (apply hK; clear hK K) | refine yU ?_ | (refine yV (by with_unfolding_all rfl) ?_ ?_ <;> intro h <;> (try simp only [zM, zN] at h) <;> try exact absurd h (by decide)) | refine yW ?_ | refine yX ?_ | refine yY ?_ | refine yZ mixed (by kernel_rfl) fun K hK => ?_ | refine ⟨(by kernel_rfl : depB _ _ _ = true), ?_⟩ | refine Or.inl ?_) | (clear hK K))
      refine ⟨_, xH 900 rfl rfl (by simp only [go_sem, zA, zB, zC, zD, zE, zF, zG, reduceCtorEq, zH, zI, zJ, zK, zL, lB]) (by simp only [go_sem, zA, zB, zC, zD, zE, zF, zG, reduceCtorEq, zH, zI, zJ, zK, zL, lB]), ?_⟩
      simp only [go_sem, zA, zB, zC, zD, zE, zF, zG, reduceCtorEq, zH, zI, zJ, zK, zL, lB]
      all_goals (first | exact fun _ h => (by cases h) | refine fin0 ?_)
      all_goals (rw [show s = _ from hok1])
theorem equalValues_c (l : List Val) : PC zP 52 [VsP l, VsP l] (Bo true) := by
  have h := refValues_c l l (fun x _ y => refCompare_c x y)
  rw [(listCmp_zero valC l l (fun x _ y => valC_zero x y)).2 rfl] at h
  refine PCB.of_body Tryz.func52 rfl (by decide) Tryz.ntmps52 Tryz.results52 rfl rfl rfl ?_ rfl rfl
  repeat' (first | (simp only [go_sem, zA, zB, zC, zD, zE, zF, zG, reduceCtorEq, zH, zI, zJ, zK, zL]; all_goals fail_if_success guard_target =ₛ False) | (with_reducible first | ((first | refine yA rfl ?_ | refine yS ?_ | refine yT (by kernel_rfl) ?_); intro K hK) | (apply hK; clear hK K) | refine yU ?_ | (refine yV (by with_unfolding_all rfl) ?_ ?_ <;> intro h <;> (try simp only [zM, zN] at h) <;> try exact absurd h (by decide)) | refine yW ?_ | refine yX ?_ | refine yY ?_ | refine ⟨_, h, ?_⟩ | refine Or.inl ?_) | (clear hK K))
  all_goals (first | exact fun _ h => (by cases h) | (refine fin0 ?_; first | rfl | (simp only [zb, cond_true, cond_false, decide_true, decide_false] <;> rfl)))
theorem matched_c (g : Pat) (v : Val) (hg : PSm g) (hv : Sm v) : PC zP 23 [Pt g, Vt v] (Bo true) := by
  have h1 : PC zP 39 [.st (encP g), .st (encVal v)] (.tup [VsP (matchV g v).1, Bo (matchV g v).2]) := Match_c g v hg hv
  have h2 : PC zP 51 [.st (encP g), .st (encVal v)] (.tup [VsP (matchV g v).1, Bo (matchV g v).2]) := MatchPattern_c g v hg hv
  have h3 := equalValues_c (matchV g v).1
  generalize (matchV g v).1 = L at *
  generalize (matchV g v).2 = ok at *
  refine PCB.of_body Tryz.func23 rfl (by decide) Tryz.ntmps23 Tryz.results23 rfl rfl rfl ?_ rfl rfl
  cases ok
  all_goals
    repeat' (first | (simp only [go_sem, zA, zB, zC, zD, zE, zF, zG, reduceCtorEq, zH, zI, zJ, zK, zL]; all_goals fail_if_success guard_target =ₛ False) | (with_reducible first | ((first | refine yA rfl ?_ | refine yB rfl ?_ | refine yS ?_ | refine yT (by kernel_rfl) ?_); intro K hK) | (apply hK; clear hK K) | refine yU ?_ | (refine yV (by with_unfolding_all rfl) ?_ ?_ <;> intro h <;> (try simp only [zM, zN] at h) <;> try exact absurd h (by decide)) | refine yW ?_ | refine yX ?_ | refine yY ?_ | (refine ⟨fun h => ?_, fun h => ?_⟩ <;> (try simp only [zM, zN] at h) <;> try simp only [h]) | refine ⟨_, h1, ?_⟩ | refine ⟨_, h2, ?_⟩ | refine ⟨_, h3, ?_⟩ | refine Or.inl ?_) | (clear hK K))
    all_goals (first | exact fun _ h => (by cases h) | (refine fin0 ?_; first | rfl | (simp only [zb, cond_true, cond_false, decide_true, decide_false] <;> rfl)))
def fixV (l : List Val) : Val := match l with
  | [a, b] => consVal a (bif decide (b.kind = 5) || decide (b.kind = 7) then b else nilVal)
  | _ => tupVal l
def otherK : KeyD := ⟨0, [111, 116, 104, 101, 114]⟩
def mapA (keys : List KeyD) (l : List Val) (s : Src) : Val × Src :=
  bif decide (nextV s 2 = 1) then
    (bif decide ((mapV (keys ++ [otherK]) (l ++ [(fullV 1 (nextS s 2)).1])).2 = 0) then (mapV (keys ++ [otherK]) (l ++ [(fullV 1 (nextS s 2)).1])).1 else tupVal l, (fullV 1 (nextS s 2)).2)
  else (bif decide ((mapV keys l).2 = 0) then (mapV keys l).1 else tupVal l, nextS s 2)
def okV (v : Val) : Val := bif treeB v then v else nilVal
mutual
def alongV : Pat → Src → Val × Src
  | ⟨kind, num, text, kids, keys⟩, s =>
    bif decide (kind = 3) then (okV (intVal num), (fullV 2 s).2) else
    bif decide (kind = 4) then (okV (strVal text), (fullV 2 s).2) else
    bif decide (kind = 5) then (okV (atomVal text), (fullV 2 s).2) else
    bif decide (kind = 6) then (okV nilVal, (fullV 2 s).2) else
    bif decide (kind = 10) then alongH kids (fullV 2 s) else
    bif decide (kind = 7) then (okV (tupVal (alongL kids (fullV 2 s).2).1), (alongL kids (fullV 2 s).2).2) else
    bif decide (kind = 8) then (okV (fixV (alongL kids (fullV 2 s).2).1), (alongL kids (fullV 2 s).2).2) else
    bif decide (kind = 9) then (okV (mapA keys (alongL kids (fullV 2 s).2).1 (alongL kids (fullV 2 s).2).2).1, (mapA keys (alongL kids (fullV 2 s).2).1 (alongL kids (fullV 2 s).2).2).2) else
    (okV (fullV 2 s).1, (fullV 2 s).2)
def alongH : List Pat → Val × Src → Val × Src
  | [], r => (okV r.1, r.2)
  | g :: l, r => bif decide (l.length = 0) then (okV (alongV g r.2).1, (alongV g r.2).2) else (okV r.1, r.2)
def alongL : List Pat → Src → List Val × Src
  | [], s => ([], s)
  | g :: l, s => ((alongV g s).1 :: (alongL l (alongV g s).2).1, (alongL l (alongV g s).2).2)
end
theorem alongV_eq (g : Pat) (s : Src) : alongV g s = bif decide (g.kind = 3) then (okV (intVal g.num), (fullV 2 s).2) else
    bif decide (g.kind = 4) then (okV (strVal g.text), (fullV 2 s).2) else
    bif decide (g.kind = 5) then (okV (atomVal g.text), (fullV 2 s).2) else
    bif decide (g.kind = 6) then (okV nilVal, (fullV 2 s).2) else
    bif decide (g.kind = 10) then alongH g.kids (fullV 2 s) else
    bif decide (g.kind = 7) then (okV (tupVal (alongL g.kids (fullV 2 s).2).1), (alongL g.kids (fullV 2 s).2).2) else
    bif decide (g.kind = 8) then (okV (fixV (alongL g.kids (fullV 2 s).2).1), (alongL g.kids (fullV 2 s).2).2) else
    bif decide (g.kind = 9) then (okV (mapA g.keys (alongL g.kids (fullV 2 s).2).1 (alongL g.kids (fullV 2 s).2).2).1, (mapA g.keys (alongL g.kids (fullV 2 s).2).1 (alongL g.kids (fullV 2 s).2).2).2) else
    (okV (fullV 2 s).1, (fullV 2 s).2) := by cases g; rw [alongV]
theorem alongL_step {l : List Pat} {k : Nat} {g : Pat} (s : Src) (hg : l[k]? = some g) : alongL (l.drop k) s = ((alongV g s).1 :: (alongL (l.drop (k + 1)) (alongV g s).2).1, (alongL (l.drop (k + 1)) (alongV g s).2).2) := by
  obtain ⟨h1, h2⟩ := List.getElem?_eq_some_iff.1 hg
  rw [List.drop_eq_getElem_cons h1, h2, alongL]
theorem alongL_end (l : List Pat) (s : Src) : alongL (l.drop l.length) s = ([], s) := by rw [lL, alongL]
theorem ok_mapA {keys : List KeyD} {l : List Val} {s : Src} (h : s.ok) : (mapA keys l s).2.ok := by
  have h1 := ok_next h 2
  unfold mapA
  cases decide (nextV s 2 = 1)
  · exact h1
  · exact ok_full 1 _ h1
mutual
theorem ok_along : ∀ (g : Pat) (s : Src), s.ok → (alongV g s).2.ok
  | ⟨kind, num, text, kids, keys⟩, s, h => by
    have h1 := ok_full 2 s h
    have h2 := ok_alongL kids _ h1
    have h3 := ok_alongH kids (fullV 2 s) h1
    have h4 := ok_mapA (keys := keys) (l := (alongL kids (fullV 2 s).2).1) h2
    rw [alongV]
    cases decide (kind = 3) <;> simp only [cond_true, cond_false]
    · cases decide (kind = 4) <;> simp only [cond_true, cond_false]
      · cases decide (kind = 5) <;> simp only [cond_true, cond_false]
        · cases decide (kind = 6) <;> simp only [cond_true, cond_false]
          · cases decide (kind = 10) <;> simp only [cond_true, cond_false]
            · cases decide (kind = 7) <;> simp only [cond_true, cond_false]
              · cases decide (kind = 8) <;> simp only [cond_true, cond_false]
                · cases decide (kind = 9) <;> simp only [cond_true, cond_false]
                  · exact h1
                  · exact h4
                · exact h2
              · exact h2
            · exact h3
          · exact h1
        · exact h1
      · exact h1
    · exact h1
theorem ok_alongH : ∀ (l : List Pat) (r : Val × Src), r.2.ok → (alongH l r).2.ok
  | [], r, h => by rw [alongH]; exact h
  | g :: l, r, h => by
    have h1 := ok_along g r.2 h
    rw [alongH]
    cases decide (l.length = 0)
    · exact h
    · exact h1
theorem ok_alongL : ∀ (l : List Pat) (s : Src), s.ok → (alongL l s).2.ok
  | [], s, h => by rw [alongL]; exact h
  | g :: l, s, h => by
    rw [alongL]
    exact ok_alongL l _ (ok_along g s h)
end
theorem bulk_okV (v : Val) : bulkV (okV v) ≤ bulkV v := by
  unfold okV
  cases treeB v
  · have h1 : bulkV nilVal = 1 := by rw [bulkV_eq]; rfl
    have := bulkV_pos v
    simp only [cond_false]; omega
  · exact Nat.le_refl _
theorem bulk_tup (l : List Val) : bulkV (tupVal l) = 1 + bulkVs l := by
  rw [bulkV_eq]
  show 1 + bulkVs l + ([] : List KeyD).length + bulkEs [] + ([] : List (List UInt8)).length = _
  simp [bulkEs]
theorem bulk_cons (a b : Val) : bulkV (consVal a b) = 1 + bulkV a + bulkV b := by
  rw [bulkV_eq]
  show 1 + bulkVs [a, b] + ([] : List KeyD).length + bulkEs [] + ([] : List (List UInt8)).length = _
  simp [bulkEs, bulkVs]; omega
theorem bulk_leaf (k n : Int) (t : List UInt8) : bulkV ⟨k, n, t, [], [], [], []⟩ = 1 := by rw [bulkV_eq]; simp [bulkVs, bulkEs]
theorem bulk_fix (l : List Val) : bulkV (fixV l) ≤ 1 + bulkVs l := by
  match l with
  | [] => rw [show fixV [] = tupVal [] from rfl, bulk_tup]; exact Nat.le_refl _
  | [a] => rw [show fixV [a] = tupVal [a] from rfl, bulk_tup]; exact Nat.le_refl _
  | [a, b] =>
    rw [show fixV [a, b] = consVal a (bif decide (b.kind = 5) || decide (b.kind = 7) then b else nilVal) from rfl, bulk_cons]
    have h1 : bulkV nilVal = 1 := bulk_leaf 5 0 []
    have := bulkV_pos b
    simp only [bulkVs]
    cases decide (b.kind = 5) || decide (b.kind = 7) <;> simp only [cond_true, cond_false] <;> omega
  | a :: b :: c :: l => rw [show fixV (a :: b :: c :: l) = tupVal (a :: b :: c :: l) from rfl, bulk_tup]; exact Nat.le_refl _
theorem bulk_mapA (keys : List KeyD) (l : List Val) (s : Src) : bulkV (mapA keys l s).1 ≤ bulkVs l + l.length + 20 := by
  have h0 := bulk_tup l
  have h1 := bulk_full 1 (nextS s 2)
  have hb : bnd 1 = 1 := rfl
  have h2 := bulk_mapV (keys ++ [otherK]) (l ++ [(fullV 1 (nextS s 2)).1])
  have h3 := bulk_mapV keys l
  rw [bulkVs_append, lA] at h2
  simp only [bulkVs, lC, lD] at h2
  unfold mapA
  cases decide (nextV s 2 = 1) <;> simp only [cond_true, cond_false]
  · cases decide ((mapV keys l).2 = 0) <;> simp only [cond_true, cond_false] <;> omega
  · cases decide ((mapV (keys ++ [otherK]) (l ++ [(fullV 1 (nextS s 2)).1])).2 = 0) <;> simp only [cond_true, cond_false] <;> omega
mutual
theorem bulk_along : ∀ (g : Pat) (s : Src), bulkV (alongV g s).1 + 1 ≤ cntP g * 200
  | ⟨kind, num, text, kids, keys⟩, s => by
    have hc : cntP ⟨kind, num, text, kids, keys⟩ = 1 + cntPs kids := cntP_eq _
    have h1 := bulk_full 2 s
    have hb : bnd 2 = 68 := rfl
    have h2 := bulk_alongL kids (fullV 2 s).2
    have h3 := bulk_alongH kids (fullV 2 s)
    have e1 := bulk_okV (intVal num)
    have e2 := bulk_okV (strVal text)
    have e3 := bulk_okV (atomVal text)
    have e4 := bulk_okV nilVal
    have e5 := bulk_okV (tupVal (alongL kids (fullV 2 s).2).1)
    have e6 := bulk_okV (fixV (alongL kids (fullV 2 s).2).1)
    have e7 := bulk_okV (mapA keys (alongL kids (fullV 2 s).2).1 (alongL kids (fullV 2 s).2).2).1
    have e8 := bulk_okV (fullV 2 s).1
    have f1 : bulkV (intVal num) = 1 := bulk_leaf _ _ _
    have f2 : bulkV (strVal text) = 1 := bulk_leaf _ _ _
    have f3 : bulkV (atomVal text) = 1 := bulk_leaf _ _ _
    have f4 : bulkV nilVal = 1 := bulk_leaf _ _ _
    have f5 := bulk_tup (alongL kids (fullV 2 s).2).1
    have f6 := bulk_fix (alongL kids (fullV 2 s).2).1
    have f7 := bulk_mapA keys (alongL kids (fullV 2 s).2).1 (alongL kids (fullV 2 s).2).2
    rw [alongV, hc]
    cases decide (kind = 3) <;> simp only [cond_true, cond_false]
    · cases decide (kind = 4) <;> simp only [cond_true, cond_false]
      · cases decide (kind = 5) <;> simp only [cond_true, cond_false]
        · cases decide (kind = 6) <;> simp only [cond_true, cond_false]
          · cases decide (kind = 10) <;> simp only [cond_true, cond_false]
            · cases decide (kind = 7) <;> simp only [cond_true, cond_false]
              · cases decide (kind = 8) <;> simp only [cond_true, cond_false]
                · cases decide (kind = 9) <;> simp only [cond_true, cond_false]
                  · omega
                  · omega
                · omega
              · omega
            · omega
          · omega
        · omega
      · omega
    · omega
theorem bulk_alongH : ∀ (l : List Pat) (r : Val × Src), bulkV (alongH l r).1 ≤ bulkV r.1 + cntPs l * 200
  | [], r => by rw [alongH]; have := bulk_okV r.1; simp only; omega
  | g :: l, r => by
    have h1 := bulk_along g r.2
    have h2 := bulk_okV (alongV g r.2).1
    have h3 := bulk_okV r.1
    have hpos := bulkV_pos r.1
    rw [alongH]
    simp only [cntPs]
    cases decide (l.length = 0) <;> simp only [cond_true, cond_false] <;> omega
theorem bulk_alongL : ∀ (l : List Pat) (s : Src), bulkVs (alongL l s).1 + (alongL l s).1.length ≤ cntPs l * 200
  | [], s => by rw [alongL]; simp [bulkVs]
  | g :: l, s => by
    have h1 := bulk_along g s
    have h2 := bulk_alongL l (alongV g s).2
    rw [alongL]
    simp only [bulkVs, lC, cntPs]
    omega
end
end Go.Proofs.YteobojeemflggaaGreat
set_option linter.unusedVariables false
set_option linter.unusedSimpArgs false
namespace Go.Sx
variable {P : Program}
theorem OpG.appOwn {o : Oper} {env : Env} {B : Bx} {s x : Operand} {t1 t2 ty1 ty2 : TypeId} {e n by_ k es : Nat} {rows : List (List C)}
    (ho : o.op = .call { callee := .builtin .append, args := #[s, x], argTypes := #[t1, t2] }) (hbs : bsT P t1 = some (e, n)) (hbyt : byT P t1 = some (by_ + 1)) (hn2 : notInt P t2 = true)
    (es : ev P env ty1 s = some (.one (.dat (.nil es)))) (ex : ev P env ty2 x = some (.one (.own k rows.length))) (hb : B.lookup k = some (.row n rows))
    (hfB : Bx.fresh (dstN o) B = true) (hroom : (2 * rows.length + 192) * (by_ + 1) ≤ 281474976710656) :
    OpG P o env B (dstN o) (.one (.own (dstN o) rows.length)) ((dstN o, .row n rows) :: B) := by
  have hs : s ∈ o.op.operands := by rw [ho]; simp [Op.operands, Call.operands]
  have hx : x ∈ o.op.operands := by rw [ho]; simp [Op.operands, Call.operands]
  have hex : ∀ (a : Act), execOp a.eval o = (do pure (.value (← Builtin.append_ #[t1, t2] o.type #[a.eval s, a.eval x]))) := by
    intro a; rw [exec_builtin ho]; simp [builtin]
  obtain ⟨hu, hsz, ⟨z, hz, hzs⟩, hn0⟩ := bsT_spec hbs
  obtain ⟨i, hi, hib⟩ := byT_spec hbyt hu
  refine OpG.of_run fun κ M ν a w he hsat => ?_
  have hxv := ev_rep he hx ex
  simp only [T.rep, Cell.rep] at hxv
  have hsrc : ∃ new : List Value, repRows M n rows new ∧ (Builtin.lenOf (a.eval x)).run P w = .ok rows.length w ∧ ∀ d, (Builtin.firstCells n rows.length (a.eval x)).run P { w with drawn := d } = .ok new.toArray { w with drawn := d } := by
    have hres := hsat.res k _ (lookup_box hb)
    simp only [Res.ok] at hres
    obtain ⟨hcap1, hcap2, hres⟩ := hres
    rcases hres with ⟨hnone, hc0⟩ | ⟨b, c, et, mid, spare, hb1, hheap, htl, hrows0, hcs⟩
    · have hr0 : rows = [] := List.length_eq_zero_iff.1 (by omega)
      subst hr0
      rw [hxv, hnone]
      exact ⟨[], by simp only [repRows], rfl, fun d => rfl⟩
    · have hat : At (w.heap[b]?) 0 mid := ⟨c, et, (0, 0), [], spare, hheap, by simpa using htl, rfl⟩
      rw [hxv, hb1]
      exact ⟨mid, hrows0, rfl, fun d => firstCells_at (w := { w with drawn := d }) hat (repRows_length hrows0)⟩
  obtain ⟨new, hrows, hlen, hfirst⟩ := hsrc
  have hsv := ev_rep he hs es
  simp only [T.rep, Cell.rep, C.rep] at hsv
  have hyb : rows.length ≤ maxLen := by
    have : 1 ≤ by_ + 1 := by omega
    have := Nat.mul_le_mul_left (2 * rows.length + 192) this
    unfold maxLen; omega
  obtain ⟨_, hin, hout⟩ := append_run (t2 := t2) (ty := o.type) hu hsz hi hib hz hzs hn2 (base := none) (sLen := 0) (sCap := 0) (x := a.eval x) (m := rows.length) (new := new) (old := []) (w := w) hlen (by omega) (by simpa using hroom)
    hfirst (fun d => rfl) (by omega)
  by_cases h0 : 0 + rows.length ≤ 0
  · have hnil : rows = [] := List.length_eq_zero_iff.1 (by omega)
    subst hnil
    refine ⟨_, w, M, ν.set (dstN o) ⟨none, 0⟩, exec_v (hex a) (by rw [hsv]; exact hin w (by simp) rfl), Mem.ext.refl κ M, Nu.set_other, ?_, ?_⟩
    · simp only [T.rep, Cell.rep, Nu.set_self]
      rfl
    · exact hsat.nilrow (dstN o) n hfB
  · obtain ⟨cap, d, rest, hdr, hc1, hc2, hrs, hr⟩ := hout h0
    refine ⟨_, _, M, ν.set (dstN o) ⟨some w.heap.size, cap⟩, exec_v (hex a) (by rw [hsv]; exact hr), Mem.ext.refl κ M, Nu.set_other, ?_, ?_⟩
    · simp only [T.rep, Cell.rep, Nu.set_self, Nat.zero_add]
      rfl
    · refine Sat.new_box (w := { w with drawn := d }) (hsat.drawn d hdr) hfB ?_
      simp only [Res.ok, Nu.set_self]
      refine ⟨by omega, hc2, .inr ⟨w.heap.size, _, e, new, rest.toList, rfl, push_new, by simp, hrows, ?_⟩⟩
      have := repRows_length hrows
      simp only [List.nil_append, Array.size_append, List.size_toArray, this, hrs, Nat.zero_add]
      rw [← Nat.add_mul]
      congr 1
      omega
theorem stepGen {n : Nat} {all os : List Oper} {o : Oper} {env : Env} {B B' : Bx} {t : T} {K : AS → Prop} (hg : o.guard = none) (hd1 : dstOk n o = true) (hd2 : Nat.blt (dstN o) pin = true)
    (h1 : OpG P o env B (dstN o) t B') (hf : Env.fresh (dstN o) env = true) (h2 : seqSem P n all os ⟨putE env o.dst t, B'⟩ K) : seqSem P n all (o :: os) ⟨env, B⟩ K := by
  unfold seqSem guardT
  rw [hg]
  exact .gen (dstN o) t B' h1 (Nat.le_of_ble_eq_true hd2) hf hd1 (by rw [put_as]; exact h2)
theorem AWP.reg3 {n : Nat} {Q : Exit → AS → Prop} {id : Nat} {o1 o2 o3 : Oper} {env : Env} {B : Bx} (hd : dstsOk n [o1, o2, o3] = true) (g1 : o1.guard = none) (g2 : o2.guard = none) (g3 : o3.guard = none)
    (h : effVCN P o1 env B (fun t1 B1 => ∃ t2 B2, OpG P o2 (putE env o1.dst t1) B1 (dstN o2) t2 B2 ∧ Env.fresh (dstN o2) (putE env o1.dst t1) = true ∧
      effVCN P o3 (putE (putE env o1.dst t1) o2.dst t2) B2 (fun t3 B3 => Q .normal ⟨putE (putE (putE env o1.dst t1) o2.dst t2) o3.dst t3, B3⟩))) :
    AWP P n (.region id [o1, o2, o3].toArray false) ⟨env, B⟩ Q := by
  simp only [dstsOk, List.all_cons, List.all_nil, Bool.and_true, Bool.and_eq_true] at hd
  obtain ⟨⟨a1, a2⟩, ⟨b1, b2⟩, c1, c2⟩ := hd
  refine AWP.region_seq fun K hK => ?_
  have last : ∀ env2 B2, effVCN P o3 env2 B2 (fun t3 B3 => Q .normal ⟨putE env2 o3.dst t3, B3⟩) → seqSem P n [o1, o2, o3] [o3] ⟨env2, B2⟩ K := by
    intro env2 B2 h
    unfold seqSem guardT
    rw [g3]
    rcases effVCN_sound h with ⟨t, h1, h2⟩ | ⟨t, B', h1, h2⟩ | ⟨t, B', h1, hf, h2⟩
    · exact .pure t h1 c1 (by rw [put_as]; exact hK _ h2)
    · exact .eff t B' h1 c1 (by rw [put_as]; exact hK _ h2)
    · exact .gen (dstN o3) t B' h1 (Nat.le_of_ble_eq_true c2) hf c1 (by rw [put_as]; exact hK _ h2)
  have mid : ∀ t1 B1, (∃ t2 B2, OpG P o2 (putE env o1.dst t1) B1 (dstN o2) t2 B2 ∧ Env.fresh (dstN o2) (putE env o1.dst t1) = true ∧
      effVCN P o3 (putE (putE env o1.dst t1) o2.dst t2) B2 (fun t3 B3 => Q .normal ⟨putE (putE (putE env o1.dst t1) o2.dst t2) o3.dst t3, B3⟩)) → seqSem P n [o1, o2, o3] [o2, o3] ⟨putE env o1.dst t1, B1⟩ K := by
    rintro t1 B1 ⟨t2, B2, h1, hf, h2⟩
    exact stepGen g2 b1 b2 h1 hf (last _ _ h2)
  unfold seqSem guardT
  rw [g1]
  rcases effVCN_sound h with ⟨t, h1, h2⟩ | ⟨t, B', h1, h2⟩ | ⟨t, B', h1, hf, h2⟩
  · exact .pure t h1 a1 (by rw [put_as]; exact mid _ _ h2)
  · exact .eff t B' h1 a1 (by rw [put_as]; exact mid _ _ h2)
  · exact .gen (dstN o1) t B' h1 (Nat.le_of_ble_eq_true a2) hf a1 (by rw [put_as]; exact mid _ _ h2)
end Go.Sx
set_option linter.unusedSimpArgs false
set_option linter.unusedVariables false
set_option maxRecDepth 20000
set_option maxHeartbeats 64000000
namespace Go.Proofs.YteobojeemflggaaGreat
open Go Go.Sx
theorem copies_o (l : List Val) (hl : l.length ≤ 100000000) : PCB zP 85 [.one (.own pin l.length)] [(pin, .row 7 (l.map encVal))] (.one (.dat (.sl 7 (l.map encVal)))) [(pin, .row 7 (l.map encVal))] := by
  refine PCB.of_body Tryz.func85 rfl (by decide) Tryz.ntmps85 Tryz.results85 rfl rfl rfl ?_ rfl rfl
  refine AWP.ghQ ?_
  repeat' (first | (with_reducible refine AWP.reg3 (id := 1) (by kernel_rfl) rfl rfl rfl ?_) | (simp only [go_sem, zA, zB, zC, zD, zE, zF, zG, reduceCtorEq, zH, zI, zJ, zK, zL, pin, lB]; all_goals fail_if_success guard_target =ₛ False) | (with_reducible first | ((first | refine yA rfl ?_ | refine yS ?_ | refine yT (by kernel_rfl) ?_); intro K hK) | (apply hK; clear hK K) | refine yU ?_ | (refine yV (by with_unfolding_all rfl) ?_ ?_ <;> intro h <;> (try simp only [zM, zN] at h) <;> try exact absurd h (by decide)) | refine yW ?_ | refine yX ?_ | refine yY ?_ | refine Or.inl ?_) | (clear hK K))
  all_goals (refine ⟨_, _, OpG.appOwn (es := 7) (k := 1000000) (rows := l.map encVal) (by_ := 127) (ty1 := 24) (ty2 := 24) rfl bs24 by24 ni24 (by simp only [go_sem, zA, zB, zC, zD, zE, zF, zG, reduceCtorEq, zH, zI, zJ, zK, zL]) (by simp only [go_sem, zA, zB, zC, zD, zE, zF, zG, reduceCtorEq, zH, zI, zJ, zK, zL, lB]) rfl (by simp only [go_sem, zA, zB, zC, zD, zE, zF, zG, reduceCtorEq, zH, zI, zJ, zK, zL]) (by rw [lB]; omega), ?_⟩)
  repeat' (first | (simp only [go_sem, zA, zB, zC, zD, zE, zF, zG, reduceCtorEq, zH, zI, zJ, zK, zL, pin, lB]; all_goals fail_if_success guard_target =ₛ False) | (with_reducible first | ((first | refine yA rfl ?_ | refine yS ?_ | refine yT (by kernel_rfl) ?_); intro K hK) | (apply hK; clear hK K) | refine yU ?_ | (refine yV (by with_unfolding_all rfl) ?_ ?_ <;> intro h <;> (try simp only [zM, zN] at h) <;> try exact absurd h (by decide)) | refine yW ?_ | refine yX ?_ | refine yY ?_ | refine Or.inl ?_) | (clear hK K))
  refine ⟨_, xH 4 rfl rfl (by simp only [go_sem, zA, zB, zC, zD, zE, zF, zG, reduceCtorEq, zH, zI, zJ, zK, zL, lB]) (by simp only [go_sem, zA, zB, zC, zD, zE, zF, zG, reduceCtorEq, zH, zI, zJ, zK, zL, lB]), ?_⟩
  simp only [go_sem, zA, zB, zC, zD, zE, zF, zG, reduceCtorEq, zH, zI, zJ, zK, zL, lB]
  all_goals ((try refine ⟨by first | trivial | rfl, ?_⟩); intro x hx; simp only [List.mem_singleton] at hx; subst hx; simp)
theorem tuple_o (l : List Val) (hl : l.length ≤ 100000000) : PCB zP 47 [.one (.own pin l.length)] [(pin, .row 7 (l.map encVal))] (Vt (tupVal l)) [(pin, .row 7 (l.map encVal))] := by
  have h : PCBk zP 85 [.one (.own 1000000 l.length)] 1000000 (.row 7 (l.map encVal)) (.one (.dat (.sl 7 (l.map encVal)))) (.row 7 (l.map encVal)) := PCBk.mk 1000000 (copies_o l hl)
  have e : encVal (tupVal l) = [.int .i64 6, .int .i64 0, .str [], .sl 7 (l.map encVal), .sl 2 [], .sl 9 [], .sl 1 []] := by rw [encVal_eq]; rfl
  refine PCB.of_body Tryz.func47 rfl (by decide) Tryz.ntmps47 Tryz.results47 rfl rfl rfl ?_ rfl rfl
  repeat' (first | (simp only [go_sem, zA, zB, zC, zD, zE, zF, zG, reduceCtorEq, zH, zI, zJ, zK, zL, pin, lB]; all_goals fail_if_success guard_target =ₛ False) | (with_reducible first | ((first | refine yA rfl ?_ | refine yS ?_ | refine yT (by kernel_rfl) ?_); intro K hK) | (apply hK; clear hK K) | refine yU ?_ | (refine yV (by with_unfolding_all rfl) ?_ ?_ <;> intro h <;> (try simp only [zM, zN] at h) <;> try exact absurd h (by decide)) | refine yW ?_ | refine yX ?_ | refine yY ?_) | (apply Or.inr; refine ⟨1000000, _, _, _, h, rfl, ?_⟩; simp only [go_sem, zA, zB, zC, zD, zE, zF, zG, reduceCtorEq, zH, zI, zJ, zK, zL]) | (with_reducible first | refine Or.inl ?_) | (clear hK K))
  all_goals (try rw [show Vt (tupVal l) = T.st (encVal (tupVal l)) from rfl, e])
  all_goals ((try refine ⟨by first | trivial | rfl, ?_⟩); intro x hx; simp only [List.mem_singleton] at hx; subst hx; simp)
end Go.Proofs.YteobojeemflggaaGreat
