/- A part of the proof. Conditions: those that each lemma states. -/
import Derived.Test.YteobojeemflggaaGreatPm6
import Derived.Test.YteobojeemflggaaGreatPm9
import Derived.Test.YteobojeemflggaaGreatPm5
import Derived.Test.YteobojeemflggaaGreatPm7
open List renaming length_append → lA, length_map → lB, length_cons → lC, length_nil → lD, take_length → lK, flatMap_append → lM, take_add_one → lO, mem_of_getElem? → lP
open Go.Sx renaming seqVC_stepN → yA, seqVC_stepG → yB
open Go.Sx.AWP renaming seq → yS, seqR → yT, block → yU, cond → yV, skip → yW, ret → yX, exit → yY, range → xC, gh → xD
open Go.Sx.Gh renaming to → xG
open Nat renaming reduceBEq → zA, reduceBNe → zB, reduceAdd → zC, reduceSub → zD, reduceMul → zE, reduceLeDiff → zF, reduceLT → zG, reduceEqDiff → zH
open Int renaming reduceToNat → zI, reduceLE → zJ, reduceLT → zK, reduceEq → zL
open Bool renaming not_eq_true' → zM, not_eq_false' → zN
set_option linter.unusedSimpArgs false
set_option linter.unusedVariables false
set_option maxRecDepth 20000
set_option maxHeartbeats 64000000
namespace Go.Proofs.YteobojeemflggaaGreat
open Go Go.Sx
def nameP (k : Int) : Bool := decide (k = 2) || decide (k = 10)
theorem nameP_cases (k : Int) : (decide (k = 2) = true ∧ nameP k = true) ∨ (decide (k = 2) = false ∧ decide (k = 10) = true ∧ nameP k = true) ∨ (decide (k = 2) = false ∧ decide (k = 10) = false ∧ nameP k = false) := by
  unfold nameP; cases decide (k = 2) <;> cases decide (k = 10) <;> simp
theorem str_appP (l m : List (List UInt8)) : l.map encStr ++ m.map encStr = (l ++ m).map encStr := by simp
mutual
def collP : Pat → List (List UInt8)
  | ⟨kind, num, text, kids, keys⟩ => (bif nameP kind then [text] else []) ++ collPs kids
def collPs : List Pat → List (List UInt8)
  | [] => []
  | g :: l => collP g ++ collPs l
end
theorem collPs_flat : ∀ l : List Pat, collPs l = l.flatMap collP
  | [] => by simp only [collPs, List.flatMap_nil]
  | g :: l => by simp only [collPs, List.flatMap_cons, collPs_flat l]
theorem collP_eq (g : Pat) : collP g = (bif nameP g.kind then [g.text] else []) ++ g.kids.flatMap collP := by cases g; simp only [collP, collPs_flat]
mutual
theorem collP_len : ∀ g : Pat, (collP g).length ≤ cntP g
  | ⟨kind, num, text, kids, keys⟩ => by
    have h := collPs_len kids
    simp only [collP, cntP, lA]
    cases nameP kind <;> simp only [cond_true, cond_false, lC, lD] <;> omega
theorem collPs_len : ∀ l : List Pat, (collPs l).length ≤ cntPs l
  | [] => by simp [collPs]
  | g :: l => by have h1 := collP_len g; have h2 := collPs_len l; simp only [collPs, cntPs, lA]; omega
end
theorem collP_flat (l : List Pat) : (l.flatMap collP).length ≤ cntPs l := by rw [← collPs_flat]; exact collPs_len l
abbrev SsP (l : List (List UInt8)) : T := .one (.dat (.sl 1 (l.map encStr)))
theorem collectP_c (g : Pat) (hg : PSm g) : PC Tryz.prog 80 [Pt g] (SsP (collP g)) := by
  have ih : ∀ k ∈ g.kids, PC Tryz.prog 80 [Pt k] (SsP (collP k)) := fun k hk => collectP_c k (hg.kid k hk)
  have hce := cntP_eq g
  unfold PSm at hg
  rw [collP_eq]
  rcases nameP_cases g.kind with ⟨c1, ht⟩ | ⟨c1, c2, ht⟩ | ⟨c1, c2, ht⟩ <;> rw [ht]
  iterate 2
    ·
      first | have c3 := c2 | have c2 := c1
      refine PCB.of_body Tryz.func80 rfl (by decide) Tryz.ntmps80 Tryz.results80 rfl rfl rfl ?_ rfl rfl
      refine AWP.ghQ ?_
      repeat' (first | (simp only [go_sem, zA, zB, zC, zD, zE, zF, zG, reduceCtorEq, zH, zI, zJ, zK, zL, encP_eq g, c1, c2, cond_true, lB]; all_goals fail_if_success guard_target =ₛ False) | (with_reducible first | ((first | refine yA rfl ?_ | refine yB rfl ?_ | refine yS ?_ | refine yT (by kernel_rfl) ?_); intro K hK) | (apply hK; clear hK K) | refine yU ?_ | (refine yV (by with_unfolding_all rfl) ?_ ?_ <;> intro h <;> (try simp only [zM, zN] at h) <;> try exact absurd h (by decide)) | refine yW ?_ | refine yX ?_ | refine yY ?_ | (refine ⟨fun h => ?_, fun h => ?_⟩ <;> (try simp only [zM, zN] at h) <;> try simp only [h]) | refine ⟨(by omega : _ ≤ _), ?_⟩ | refine Or.inl ?_) | (clear hK K))
      refine xD (Gh.rename 18 900 rfl rfl rfl rfl) ?_
      simp only [go_sem, zA, zB, zC, zD, zE, zF, zG, reduceCtorEq, zH, zI, zJ, zK, zL]
      refine AWP.len 20 rfl fun hlen0 => ?_
      (try rw [lB] at hlen0)
      refine xC (S := List (List UInt8)) (g.kids) encP (fun k s => (22, I .i64 (k : Nat)) :: [(3, .one (.own 900 s.length))]) (fun k s => [(900, .row 1 (s.map encStr))]) [20, 21] [] (fun k s => Is s ([g.text] ++ (g.kids.take k).flatMap collP)) ([g.text]) (by simp only [go_sem, zA, zB, zC, zD, zE, zF, zG, reduceCtorEq, zH, zI, zJ, zK, zL, encP_eq]; exact (by refine xG [] ?_ ?_ rfl rfl rfl <;> repeat first | exact trivial | refine ⟨rfl, ?_⟩ | refine ⟨by (simp only [go_sem, zA, zB, zC, zD, zE, zF, zG, reduceCtorEq, zH, zI, zJ, zK, zL, lA, lB, lC, lD, Nat.zero_add]) <;> rfl, ?_⟩)) ?_ ?_ ?_
      · simp [Is]
      · intro k s x hlt hx hx' hb hok
        simp only [go_sem, zA, zB, zC, zD, zE, zF, zG, reduceCtorEq, zH, zI, zJ, zK, zL]
        have hix := ih x (lP hx)
        have hct := cntPs_take hx
        have hcl := cntPs_le g.kids (k + 1)
        have hfl := collP_flat (g.kids.take k)
        have hxl := collP_len x
        have hsl : s.length ≤ 1 + cntPs (g.kids.take k) := by rw [show s = _ from hok, lA]; simp only [lC, lD]; omega
        repeat' (first | (simp only [go_sem, zA, zB, zC, zD, zE, zF, zG, reduceCtorEq, zH, zI, zJ, zK, zL, encP_eq g, lB, hb, str_appP]; all_goals fail_if_success guard_target =ₛ False) | (with_reducible first | ((first | refine yA rfl ?_ | refine yB rfl ?_ | refine yS ?_ | refine yT (by kernel_rfl) ?_); intro K hK) | (apply hK; clear hK K) | refine yU ?_ | (refine yV (by with_unfolding_all rfl) ?_ ?_ <;> intro h <;> (try simp only [zM, zN] at h) <;> try exact absurd h (by decide)) | refine yW ?_ | refine yX ?_ | refine yY ?_ | (refine ⟨fun h => ?_, fun h => ?_⟩ <;> (try simp only [zM, zN] at h) <;> try simp only [h]) | refine ⟨_, hix, ?_⟩ | refine ⟨by omega, encP x, hx', ?_⟩ | refine ⟨(by omega : _ ≤ _), ?_⟩ | refine Or.inl ?_) | (clear hK K))
        all_goals (rw [wrap_succ hlt hlen0])
        all_goals (refine ⟨s ++ collP x, ?_, (by refine xG [(900, 29)] ?_ ?_ rfl rfl rfl <;> repeat first | exact trivial | refine ⟨rfl, ?_⟩ | refine ⟨by (simp only [go_sem, zA, zB, zC, zD, zE, zF, zG, reduceCtorEq, zH, zI, zJ, zK, zL, lA, lB, lC, lD, Nat.zero_add]) <;> rfl, ?_⟩)⟩)
        all_goals (unfold Is at hok ⊢; rw [lO, hx, lM, hok]; simp)
      · intro s hb hok
        simp only [go_sem, zA, zB, zC, zD, zE, zF, zG, reduceCtorEq, zH, zI, zJ, zK, zL]
        rw [Is, lK] at hok
        repeat' (first | (simp only [go_sem, zA, zB, zC, zD, zE, zF, zG, reduceCtorEq, zH, zI, zJ, zK, zL, encP_eq g, lB, hb]; all_goals fail_if_success guard_target =ₛ False) | (with_reducible first | ((first | refine yA rfl ?_ | refine yB rfl ?_ | refine yS ?_ | refine yT (by kernel_rfl) ?_); intro K hK) | (apply hK; clear hK K) | refine yU ?_ | (refine yV (by with_unfolding_all rfl) ?_ ?_ <;> intro h <;> (try simp only [zM, zN] at h) <;> try exact absurd h (by decide)) | refine yW ?_ | refine yX ?_ | refine yY ?_ | (refine ⟨fun h => ?_, fun h => ?_⟩ <;> (try simp only [zM, zN] at h) <;> try simp only [h]) | refine Or.inl ?_) | (clear hK K))
        refine ⟨_, Gh.freeze 900 rfl rfl (by simp only [go_sem, zA, zB, zC, zD, zE, zF, zG, reduceCtorEq, zH, zI, zJ, zK, zL, lB]) (by simp only [go_sem, zA, zB, zC, zD, zE, zF, zG, reduceCtorEq, zH, zI, zJ, zK, zL, lB]), ?_⟩
        simp only [go_sem, zA, zB, zC, zD, zE, zF, zG, reduceCtorEq, zH, zI, zJ, zK, zL, lB]
        all_goals (first | exact fun _ h => (by cases h) | refine fin0 ?_)
        all_goals (rw [show s = _ from hok]; rfl)
  ·
    refine PCB.of_body Tryz.func80 rfl (by decide) Tryz.ntmps80 Tryz.results80 rfl rfl rfl ?_ rfl rfl
    refine AWP.ghQ ?_
    repeat' (first | (simp only [go_sem, zA, zB, zC, zD, zE, zF, zG, reduceCtorEq, zH, zI, zJ, zK, zL, encP_eq g, c1, c2, cond_true, lB]; all_goals fail_if_success guard_target =ₛ False) | (with_reducible first | ((first | refine yA rfl ?_ | refine yB rfl ?_ | refine yS ?_ | refine yT (by kernel_rfl) ?_); intro K hK) | (apply hK; clear hK K) | refine yU ?_ | (refine yV (by with_unfolding_all rfl) ?_ ?_ <;> intro h <;> (try simp only [zM, zN] at h) <;> try exact absurd h (by decide)) | refine yW ?_ | refine yX ?_ | refine yY ?_ | (refine ⟨fun h => ?_, fun h => ?_⟩ <;> (try simp only [zM, zN] at h) <;> try simp only [h]) | refine Or.inl ?_) | (clear hK K))
    refine xD (Gh.nilrow 3 900 rfl rfl rfl rfl) ?_
    refine AWP.len 20 rfl fun hlen0 => ?_
    (try rw [lB] at hlen0)
    refine xC (S := List (List UInt8)) (g.kids) encP (fun k s => (22, I .i64 (k : Nat)) :: [(3, .one (.own 900 s.length))]) (fun k s => [(900, .row 1 (s.map encStr))]) [20, 21] [] (fun k s => Is s ([] ++ (g.kids.take k).flatMap collP)) ([]) (by simp only [go_sem, zA, zB, zC, zD, zE, zF, zG, reduceCtorEq, zH, zI, zJ, zK, zL, encP_eq]; exact (by refine xG [] ?_ ?_ rfl rfl rfl <;> repeat first | exact trivial | refine ⟨rfl, ?_⟩ | refine ⟨by (simp only [go_sem, zA, zB, zC, zD, zE, zF, zG, reduceCtorEq, zH, zI, zJ, zK, zL, lA, lB, lC, lD, Nat.zero_add]) <;> rfl, ?_⟩)) ?_ ?_ ?_
    · simp [Is]
    · intro k s x hlt hx hx' hb hok
      simp only [go_sem, zA, zB, zC, zD, zE, zF, zG, reduceCtorEq, zH, zI, zJ, zK, zL]
      have hix := ih x (lP hx)
      have hct := cntPs_take hx
      have hcl := cntPs_le g.kids (k + 1)
      have hfl := collP_flat (g.kids.take k)
      have hxl := collP_len x
      have hsl : s.length ≤ 1 + cntPs (g.kids.take k) := by rw [show s = _ from hok, lA]; simp only [lC, lD]; omega
      repeat' (first | (simp only [go_sem, zA, zB, zC, zD, zE, zF, zG, reduceCtorEq, zH, zI, zJ, zK, zL, encP_eq g, lB, hb, str_appP]; all_goals fail_if_success guard_target =ₛ False) | (with_reducible first | ((first | refine yA rfl ?_ | refine yB rfl ?_ | refine yS ?_ | refine yT (by kernel_rfl) ?_); intro K hK) | (apply hK; clear hK K) | refine yU ?_ | (refine yV (by with_unfolding_all rfl) ?_ ?_ <;> intro h <;> (try simp only [zM, zN] at h) <;> try exact absurd h (by decide)) | refine yW ?_ | refine yX ?_ | refine yY ?_ | (refine ⟨fun h => ?_, fun h => ?_⟩ <;> (try simp only [zM, zN] at h) <;> try simp only [h]) | refine ⟨_, hix, ?_⟩ | refine ⟨by omega, encP x, hx', ?_⟩ | refine ⟨(by omega : _ ≤ _), ?_⟩ | refine Or.inl ?_) | (clear hK K))
      all_goals (rw [wrap_succ hlt hlen0])
      all_goals (refine ⟨s ++ collP x, ?_, (by refine xG [(900, 29)] ?_ ?_ rfl rfl rfl <;> repeat first | exact trivial | refine ⟨rfl, ?_⟩ | refine ⟨by (simp only [go_sem, zA, zB, zC, zD, zE, zF, zG, reduceCtorEq, zH, zI, zJ, zK, zL, lA, lB, lC, lD, Nat.zero_add]) <;> rfl, ?_⟩)⟩)
      all_goals (unfold Is at hok ⊢; rw [lO, hx, lM, hok]; simp)
    · intro s hb hok
      simp only [go_sem, zA, zB, zC, zD, zE, zF, zG, reduceCtorEq, zH, zI, zJ, zK, zL]
      rw [Is, lK] at hok
      repeat' (first | (simp only [go_sem, zA, zB, zC, zD, zE, zF, zG, reduceCtorEq, zH, zI, zJ, zK, zL, encP_eq g, lB, hb]; all_goals fail_if_success guard_target =ₛ False) | (with_reducible first | ((first | refine yA rfl ?_ | refine yB rfl ?_ | refine yS ?_ | refine yT (by kernel_rfl) ?_); intro K hK) | (apply hK; clear hK K) | refine yU ?_ | (refine yV (by with_unfolding_all rfl) ?_ ?_ <;> intro h <;> (try simp only [zM, zN] at h) <;> try exact absurd h (by decide)) | refine yW ?_ | refine yX ?_ | refine yY ?_ | (refine ⟨fun h => ?_, fun h => ?_⟩ <;> (try simp only [zM, zN] at h) <;> try simp only [h]) | refine Or.inl ?_) | (clear hK K))
      refine ⟨_, Gh.freeze 900 rfl rfl (by simp only [go_sem, zA, zB, zC, zD, zE, zF, zG, reduceCtorEq, zH, zI, zJ, zK, zL, lB]) (by simp only [go_sem, zA, zB, zC, zD, zE, zF, zG, reduceCtorEq, zH, zI, zJ, zK, zL, lB]), ?_⟩
      simp only [go_sem, zA, zB, zC, zD, zE, zF, zG, reduceCtorEq, zH, zI, zJ, zK, zL, lB]
      all_goals (first | exact fun _ h => (by cases h) | refine fin0 ?_)
      all_goals (rw [show s = _ from hok]; rfl)
termination_by cntP g
decreasing_by exact cntP_kid hk
theorem collectP_n (g : Pat) (hg : PSm g) : PCN Tryz.prog 80 [Pt g] (.one (.own 0 (collP g).length)) (.row 1 ((collP g).map encStr)) := by
  have ih : ∀ k ∈ g.kids, PC Tryz.prog 80 [Pt k] (SsP (collP k)) := fun k hk => collectP_c k (hg.kid k hk)
  have hce := cntP_eq g
  unfold PSm at hg
  rw [collP_eq]
  rcases nameP_cases g.kind with ⟨c1, ht⟩ | ⟨c1, c2, ht⟩ | ⟨c1, c2, ht⟩ <;> rw [ht]
  iterate 2
    ·
      first | have c3 := c2 | have c2 := c1
      refine PCN.of_body 900 Tryz.func80 rfl (by decide) Tryz.ntmps80 Tryz.results80 rfl rfl ?_
      refine AWP.ghQ ?_
      repeat' (first | (simp only [go_sem, zA, zB, zC, zD, zE, zF, zG, reduceCtorEq, zH, zI, zJ, zK, zL, encP_eq g, c1, c2, cond_true, lB]; all_goals fail_if_success guard_target =ₛ False) | (with_reducible first | ((first | refine yA rfl ?_ | refine yB rfl ?_ | refine yS ?_ | refine yT (by kernel_rfl) ?_); intro K hK) | (apply hK; clear hK K) | refine yU ?_ | (refine yV (by with_unfolding_all rfl) ?_ ?_ <;> intro h <;> (try simp only [zM, zN] at h) <;> try exact absurd h (by decide)) | refine yW ?_ | refine yX ?_ | refine yY ?_ | (refine ⟨fun h => ?_, fun h => ?_⟩ <;> (try simp only [zM, zN] at h) <;> try simp only [h]) | refine ⟨(by omega : _ ≤ _), ?_⟩ | refine Or.inl ?_) | (clear hK K))
      refine xD (Gh.rename 18 900 rfl rfl rfl rfl) ?_
      simp only [go_sem, zA, zB, zC, zD, zE, zF, zG, reduceCtorEq, zH, zI, zJ, zK, zL]
      refine AWP.len 20 rfl fun hlen0 => ?_
      (try rw [lB] at hlen0)
      refine xC (S := List (List UInt8)) (g.kids) encP (fun k s => (22, I .i64 (k : Nat)) :: [(3, .one (.own 900 s.length))]) (fun k s => [(900, .row 1 (s.map encStr))]) [20, 21] [] (fun k s => Is s ([g.text] ++ (g.kids.take k).flatMap collP)) ([g.text]) (by simp only [go_sem, zA, zB, zC, zD, zE, zF, zG, reduceCtorEq, zH, zI, zJ, zK, zL, encP_eq]; exact (by refine xG [] ?_ ?_ rfl rfl rfl <;> repeat first | exact trivial | refine ⟨rfl, ?_⟩ | refine ⟨by (simp only [go_sem, zA, zB, zC, zD, zE, zF, zG, reduceCtorEq, zH, zI, zJ, zK, zL, lA, lB, lC, lD, Nat.zero_add]) <;> rfl, ?_⟩)) ?_ ?_ ?_
      · simp [Is]
      · intro k s x hlt hx hx' hb hok
        simp only [go_sem, zA, zB, zC, zD, zE, zF, zG, reduceCtorEq, zH, zI, zJ, zK, zL]
        have hix := ih x (lP hx)
        have hct := cntPs_take hx
        have hcl := cntPs_le g.kids (k + 1)
        have hfl := collP_flat (g.kids.take k)
        have hxl := collP_len x
        have hsl : s.length ≤ 1 + cntPs (g.kids.take k) := by rw [show s = _ from hok, lA]; simp only [lC, lD]; omega
        repeat' (first | (simp only [go_sem, zA, zB, zC, zD, zE, zF, zG, reduceCtorEq, zH, zI, zJ, zK, zL, encP_eq g, lB, hb, str_appP]; all_goals fail_if_success guard_target =ₛ False) | (with_reducible first | ((first | refine yA rfl ?_ | refine yB rfl ?_ | refine yS ?_ | refine yT (by kernel_rfl) ?_); intro K hK) | (apply hK; clear hK K) | refine yU ?_ | (refine yV (by with_unfolding_all rfl) ?_ ?_ <;> intro h <;> (try simp only [zM, zN] at h) <;> try exact absurd h (by decide)) | refine yW ?_ | refine yX ?_ | refine yY ?_ | (refine ⟨fun h => ?_, fun h => ?_⟩ <;> (try simp only [zM, zN] at h) <;> try simp only [h]) | refine ⟨_, hix, ?_⟩ | refine ⟨by omega, encP x, hx', ?_⟩ | refine ⟨(by omega : _ ≤ _), ?_⟩ | refine Or.inl ?_) | (clear hK K))
        all_goals (rw [wrap_succ hlt hlen0])
        all_goals (refine ⟨s ++ collP x, ?_, (by refine xG [(900, 29)] ?_ ?_ rfl rfl rfl <;> repeat first | exact trivial | refine ⟨rfl, ?_⟩ | refine ⟨by (simp only [go_sem, zA, zB, zC, zD, zE, zF, zG, reduceCtorEq, zH, zI, zJ, zK, zL, lA, lB, lC, lD, Nat.zero_add]) <;> rfl, ?_⟩)⟩)
        all_goals (unfold Is at hok ⊢; rw [lO, hx, lM, hok]; simp)
      · intro s hb hok
        simp only [go_sem, zA, zB, zC, zD, zE, zF, zG, reduceCtorEq, zH, zI, zJ, zK, zL]
        rw [Is, lK] at hok
        repeat' (first | (simp only [go_sem, zA, zB, zC, zD, zE, zF, zG, reduceCtorEq, zH, zI, zJ, zK, zL, encP_eq g, lB, hb]; all_goals fail_if_success guard_target =ₛ False) | (with_reducible first | ((first | refine yA rfl ?_ | refine yB rfl ?_ | refine yS ?_ | refine yT (by kernel_rfl) ?_); intro K hK) | (apply hK; clear hK K) | refine yU ?_ | (refine yV (by with_unfolding_all rfl) ?_ ?_ <;> intro h <;> (try simp only [zM, zN] at h) <;> try exact absurd h (by decide)) | refine yW ?_ | refine yX ?_ | refine yY ?_ | (refine ⟨fun h => ?_, fun h => ?_⟩ <;> (try simp only [zM, zN] at h) <;> try simp only [h]) | refine Or.inl ?_) | (clear hK K))
        refine ⟨_, Gh.refl _, ?_⟩
        simp only [go_sem, zA, zB, zC, zD, zE, zF, zG, reduceCtorEq, zH, zI, zJ, zK, zL, lB]
        subst hok
        exact ⟨rfl, fun x hx => hx⟩
  ·
    refine PCN.of_body 900 Tryz.func80 rfl (by decide) Tryz.ntmps80 Tryz.results80 rfl rfl ?_
    refine AWP.ghQ ?_
    repeat' (first | (simp only [go_sem, zA, zB, zC, zD, zE, zF, zG, reduceCtorEq, zH, zI, zJ, zK, zL, encP_eq g, c1, c2, cond_true, lB]; all_goals fail_if_success guard_target =ₛ False) | (with_reducible first | ((first | refine yA rfl ?_ | refine yB rfl ?_ | refine yS ?_ | refine yT (by kernel_rfl) ?_); intro K hK) | (apply hK; clear hK K) | refine yU ?_ | (refine yV (by with_unfolding_all rfl) ?_ ?_ <;> intro h <;> (try simp only [zM, zN] at h) <;> try exact absurd h (by decide)) | refine yW ?_ | refine yX ?_ | refine yY ?_ | (refine ⟨fun h => ?_, fun h => ?_⟩ <;> (try simp only [zM, zN] at h) <;> try simp only [h]) | refine Or.inl ?_) | (clear hK K))
    refine xD (Gh.nilrow 3 900 rfl rfl rfl rfl) ?_
    refine AWP.len 20 rfl fun hlen0 => ?_
    (try rw [lB] at hlen0)
    refine xC (S := List (List UInt8)) (g.kids) encP (fun k s => (22, I .i64 (k : Nat)) :: [(3, .one (.own 900 s.length))]) (fun k s => [(900, .row 1 (s.map encStr))]) [20, 21] [] (fun k s => Is s ([] ++ (g.kids.take k).flatMap collP)) ([]) (by simp only [go_sem, zA, zB, zC, zD, zE, zF, zG, reduceCtorEq, zH, zI, zJ, zK, zL, encP_eq]; exact (by refine xG [] ?_ ?_ rfl rfl rfl <;> repeat first | exact trivial | refine ⟨rfl, ?_⟩ | refine ⟨by (simp only [go_sem, zA, zB, zC, zD, zE, zF, zG, reduceCtorEq, zH, zI, zJ, zK, zL, lA, lB, lC, lD, Nat.zero_add]) <;> rfl, ?_⟩)) ?_ ?_ ?_
    · simp [Is]
    · intro k s x hlt hx hx' hb hok
      simp only [go_sem, zA, zB, zC, zD, zE, zF, zG, reduceCtorEq, zH, zI, zJ, zK, zL]
      have hix := ih x (lP hx)
      have hct := cntPs_take hx
      have hcl := cntPs_le g.kids (k + 1)
      have hfl := collP_flat (g.kids.take k)
      have hxl := collP_len x
      have hsl : s.length ≤ 1 + cntPs (g.kids.take k) := by rw [show s = _ from hok, lA]; simp only [lC, lD]; omega
      repeat' (first | (simp only [go_sem, zA, zB, zC, zD, zE, zF, zG, reduceCtorEq, zH, zI, zJ, zK, zL, encP_eq g, lB, hb, str_appP]; all_goals fail_if_success guard_target =ₛ False) | (with_reducible first | ((first | refine yA rfl ?_ | refine yB rfl ?_ | refine yS ?_ | refine yT (by kernel_rfl) ?_); intro K hK) | (apply hK; clear hK K) | refine yU ?_ | (refine yV (by with_unfolding_all rfl) ?_ ?_ <;> intro h <;> (try simp only [zM, zN] at h) <;> try exact absurd h (by decide)) | refine yW ?_ | refine yX ?_ | refine yY ?_ | (refine ⟨fun h => ?_, fun h => ?_⟩ <;> (try simp only [zM, zN] at h) <;> try simp only [h]) | refine ⟨_, hix, ?_⟩ | refine ⟨by omega, encP x, hx', ?_⟩ | refine ⟨(by omega : _ ≤ _), ?_⟩ | refine Or.inl ?_) | (clear hK K))
      all_goals (rw [wrap_succ hlt hlen0])
      all_goals (refine ⟨s ++ collP x, ?_, (by refine xG [(900, 29)] ?_ ?_ rfl rfl rfl <;> repeat first | exact trivial | refine ⟨rfl, ?_⟩ | refine ⟨by (simp only [go_sem, zA, zB, zC, zD, zE, zF, zG, reduceCtorEq, zH, zI, zJ, zK, zL, lA, lB, lC, lD, Nat.zero_add]) <;> rfl, ?_⟩)⟩)
      all_goals (unfold Is at hok ⊢; rw [lO, hx, lM, hok]; simp)
    · intro s hb hok
      simp only [go_sem, zA, zB, zC, zD, zE, zF, zG, reduceCtorEq, zH, zI, zJ, zK, zL]
      rw [Is, lK] at hok
      repeat' (first | (simp only [go_sem, zA, zB, zC, zD, zE, zF, zG, reduceCtorEq, zH, zI, zJ, zK, zL, encP_eq g, lB, hb]; all_goals fail_if_success guard_target =ₛ False) | (with_reducible first | ((first | refine yA rfl ?_ | refine yB rfl ?_ | refine yS ?_ | refine yT (by kernel_rfl) ?_); intro K hK) | (apply hK; clear hK K) | refine yU ?_ | (refine yV (by with_unfolding_all rfl) ?_ ?_ <;> intro h <;> (try simp only [zM, zN] at h) <;> try exact absurd h (by decide)) | refine yW ?_ | refine yX ?_ | refine yY ?_ | (refine ⟨fun h => ?_, fun h => ?_⟩ <;> (try simp only [zM, zN] at h) <;> try simp only [h]) | refine Or.inl ?_) | (clear hK K))
      refine ⟨_, Gh.refl _, ?_⟩
      simp only [go_sem, zA, zB, zC, zD, zE, zF, zG, reduceCtorEq, zH, zI, zJ, zK, zL, lB]
      subst hok
      exact ⟨rfl, fun x hx => hx⟩
theorem occurrences_c (g : Pat) (hg : PSm g) : PC Tryz.prog 81 [Pt g] (SsP (collP g)) := by
  have ih : ∀ k ∈ g.kids, PC Tryz.prog 81 [Pt k] (SsP (collP k)) := fun k hk => occurrences_c k (hg.kid k hk)
  have hce := cntP_eq g
  unfold PSm at hg
  rw [collP_eq]
  rcases nameP_cases g.kind with ⟨c1, ht⟩ | ⟨c1, c2, ht⟩ | ⟨c1, c2, ht⟩ <;> rw [ht]
  iterate 2
    ·
      first | have c3 := c2 | have c2 := c1
      refine PCB.of_body Tryz.func81 rfl (by decide) Tryz.ntmps81 Tryz.results81 rfl rfl rfl ?_ rfl rfl
      refine AWP.ghQ ?_
      repeat' (first | (simp only [go_sem, zA, zB, zC, zD, zE, zF, zG, reduceCtorEq, zH, zI, zJ, zK, zL, encP_eq g, c1, c2, cond_true, lB]; all_goals fail_if_success guard_target =ₛ False) | (with_reducible first | ((first | refine yA rfl ?_ | refine yB rfl ?_ | refine yS ?_ | refine yT (by kernel_rfl) ?_); intro K hK) | (apply hK; clear hK K) | refine yU ?_ | (refine yV (by with_unfolding_all rfl) ?_ ?_ <;> intro h <;> (try simp only [zM, zN] at h) <;> try exact absurd h (by decide)) | refine yW ?_ | refine yX ?_ | refine yY ?_ | (refine ⟨fun h => ?_, fun h => ?_⟩ <;> (try simp only [zM, zN] at h) <;> try simp only [h]) | refine ⟨(by omega : _ ≤ _), ?_⟩ | refine Or.inl ?_) | (clear hK K))
      refine xD (Gh.rename 17 900 rfl rfl rfl rfl) ?_
      simp only [go_sem, zA, zB, zC, zD, zE, zF, zG, reduceCtorEq, zH, zI, zJ, zK, zL]
      refine AWP.lenB 1 3 rfl rfl fun hlen0 => ?_
      (try rw [lB] at hlen0)
      refine xC (S := List (List UInt8)) (g.kids) encP (fun k s => (4, I .i64 (k : Nat)) :: [(3, .one (.own 900 s.length))]) (fun k s => [(900, .row 1 (s.map encStr))]) [1] [1] (fun k s => Is s ([g.text] ++ (g.kids.take k).flatMap collP)) ([g.text]) (by simp only [go_sem, zA, zB, zC, zD, zE, zF, zG, reduceCtorEq, zH, zI, zJ, zK, zL, encP_eq]; exact (by refine xG [] ?_ ?_ rfl rfl rfl <;> repeat first | exact trivial | refine ⟨rfl, ?_⟩ | refine ⟨by (simp only [go_sem, zA, zB, zC, zD, zE, zF, zG, reduceCtorEq, zH, zI, zJ, zK, zL, lA, lB, lC, lD, Nat.zero_add]) <;> rfl, ?_⟩)) ?_ ?_ ?_
      · simp [Is]
      · intro k s x hlt hx hx' hb hok
        simp only [go_sem, zA, zB, zC, zD, zE, zF, zG, reduceCtorEq, zH, zI, zJ, zK, zL]
        have hix := ih x (lP hx)
        have hct := cntPs_take hx
        have hcl := cntPs_le g.kids (k + 1)
        have hfl := collP_flat (g.kids.take k)
        have hxl := collP_len x
        have hsl : s.length ≤ 1 + cntPs (g.kids.take k) := by rw [show s = _ from hok, lA]; simp only [lC, lD]; omega
        repeat' (first | (simp only [go_sem, zA, zB, zC, zD, zE, zF, zG, reduceCtorEq, zH, zI, zJ, zK, zL, encP_eq g, lB, hb, str_appP]; all_goals fail_if_success guard_target =ₛ False) | (with_reducible first | ((first | refine yA rfl ?_ | refine yB rfl ?_ | refine yS ?_ | refine yT (by kernel_rfl) ?_); intro K hK) | (apply hK; clear hK K) | refine yU ?_ | (refine yV (by with_unfolding_all rfl) ?_ ?_ <;> intro h <;> (try simp only [zM, zN] at h) <;> try exact absurd h (by decide)) | refine yW ?_ | refine yX ?_ | refine yY ?_ | (refine ⟨fun h => ?_, fun h => ?_⟩ <;> (try simp only [zM, zN] at h) <;> try simp only [h]) | refine ⟨_, hix, ?_⟩ | refine ⟨by omega, encP x, hx', ?_⟩ | refine ⟨(by omega : _ ≤ _), ?_⟩ | refine Or.inl ?_) | (clear hK K))
        all_goals (rw [wrap_succ hlt hlen0])
        all_goals (refine ⟨s ++ collP x, ?_, (by refine xG [(900, 32)] ?_ ?_ rfl rfl rfl <;> repeat first | exact trivial | refine ⟨rfl, ?_⟩ | refine ⟨by (simp only [go_sem, zA, zB, zC, zD, zE, zF, zG, reduceCtorEq, zH, zI, zJ, zK, zL, lA, lB, lC, lD, Nat.zero_add]) <;> rfl, ?_⟩)⟩)
        all_goals (unfold Is at hok ⊢; rw [lO, hx, lM, hok]; simp)
      · intro s hb hok
        simp only [go_sem, zA, zB, zC, zD, zE, zF, zG, reduceCtorEq, zH, zI, zJ, zK, zL]
        rw [Is, lK] at hok
        repeat' (first | (simp only [go_sem, zA, zB, zC, zD, zE, zF, zG, reduceCtorEq, zH, zI, zJ, zK, zL, encP_eq g, lB, hb]; all_goals fail_if_success guard_target =ₛ False) | (with_reducible first | ((first | refine yA rfl ?_ | refine yB rfl ?_ | refine yS ?_ | refine yT (by kernel_rfl) ?_); intro K hK) | (apply hK; clear hK K) | refine yU ?_ | (refine yV (by with_unfolding_all rfl) ?_ ?_ <;> intro h <;> (try simp only [zM, zN] at h) <;> try exact absurd h (by decide)) | refine yW ?_ | refine yX ?_ | refine yY ?_ | (refine ⟨fun h => ?_, fun h => ?_⟩ <;> (try simp only [zM, zN] at h) <;> try simp only [h]) | refine Or.inl ?_) | (clear hK K))
        refine ⟨_, Gh.freeze 900 rfl rfl (by simp only [go_sem, zA, zB, zC, zD, zE, zF, zG, reduceCtorEq, zH, zI, zJ, zK, zL, lB]) (by simp only [go_sem, zA, zB, zC, zD, zE, zF, zG, reduceCtorEq, zH, zI, zJ, zK, zL, lB]), ?_⟩
        simp only [go_sem, zA, zB, zC, zD, zE, zF, zG, reduceCtorEq, zH, zI, zJ, zK, zL, lB]
        all_goals (first | exact fun _ h => (by cases h) | refine fin0 ?_)
        all_goals (rw [show s = _ from hok]; rfl)
  ·
    refine PCB.of_body Tryz.func81 rfl (by decide) Tryz.ntmps81 Tryz.results81 rfl rfl rfl ?_ rfl rfl
    refine AWP.ghQ ?_
    repeat' (first | (simp only [go_sem, zA, zB, zC, zD, zE, zF, zG, reduceCtorEq, zH, zI, zJ, zK, zL, encP_eq g, c1, c2, cond_true, lB]; all_goals fail_if_success guard_target =ₛ False) | (with_reducible first | ((first | refine yA rfl ?_ | refine yB rfl ?_ | refine yS ?_ | refine yT (by kernel_rfl) ?_); intro K hK) | (apply hK; clear hK K) | refine yU ?_ | (refine yV (by with_unfolding_all rfl) ?_ ?_ <;> intro h <;> (try simp only [zM, zN] at h) <;> try exact absurd h (by decide)) | refine yW ?_ | refine yX ?_ | refine yY ?_ | (refine ⟨fun h => ?_, fun h => ?_⟩ <;> (try simp only [zM, zN] at h) <;> try simp only [h]) | refine Or.inl ?_) | (clear hK K))
    refine xD (Gh.nilrow 3 900 rfl rfl rfl rfl) ?_
    refine AWP.lenB 1 3 rfl rfl fun hlen0 => ?_
    (try rw [lB] at hlen0)
    refine xC (S := List (List UInt8)) (g.kids) encP (fun k s => (4, I .i64 (k : Nat)) :: [(3, .one (.own 900 s.length))]) (fun k s => [(900, .row 1 (s.map encStr))]) [1] [1] (fun k s => Is s ([] ++ (g.kids.take k).flatMap collP)) ([]) (by simp only [go_sem, zA, zB, zC, zD, zE, zF, zG, reduceCtorEq, zH, zI, zJ, zK, zL, encP_eq]; exact (by refine xG [] ?_ ?_ rfl rfl rfl <;> repeat first | exact trivial | refine ⟨rfl, ?_⟩ | refine ⟨by (simp only [go_sem, zA, zB, zC, zD, zE, zF, zG, reduceCtorEq, zH, zI, zJ, zK, zL, lA, lB, lC, lD, Nat.zero_add]) <;> rfl, ?_⟩)) ?_ ?_ ?_
    · simp [Is]
    · intro k s x hlt hx hx' hb hok
      simp only [go_sem, zA, zB, zC, zD, zE, zF, zG, reduceCtorEq, zH, zI, zJ, zK, zL]
      have hix := ih x (lP hx)
      have hct := cntPs_take hx
      have hcl := cntPs_le g.kids (k + 1)
      have hfl := collP_flat (g.kids.take k)
      have hxl := collP_len x
      have hsl : s.length ≤ 1 + cntPs (g.kids.take k) := by rw [show s = _ from hok, lA]; simp only [lC, lD]; omega
      repeat' (first | (simp only [go_sem, zA, zB, zC, zD, zE, zF, zG, reduceCtorEq, zH, zI, zJ, zK, zL, encP_eq g, lB, hb, str_appP]; all_goals fail_if_success guard_target =ₛ False) | (with_reducible first | ((first | refine yA rfl ?_ | refine yB rfl ?_ | refine yS ?_ | refine yT (by kernel_rfl) ?_); intro K hK) | (apply hK; clear hK K) | refine yU ?_ | (refine yV (by with_unfolding_all rfl) ?_ ?_ <;> intro h <;> (try simp only [zM, zN] at h) <;> try exact absurd h (by decide)) | refine yW ?_ | refine yX ?_ | refine yY ?_ | (refine ⟨fun h => ?_, fun h => ?_⟩ <;> (try simp only [zM, zN] at h) <;> try simp only [h]) | refine ⟨_, hix, ?_⟩ | refine ⟨by omega, encP x, hx', ?_⟩ | refine ⟨(by omega : _ ≤ _), ?_⟩ | refine Or.inl ?_) | (clear hK K))
      all_goals (rw [wrap_succ hlt hlen0])
      all_goals (refine ⟨s ++ collP x, ?_, (by refine xG [(900, 32)] ?_ ?_ rfl rfl rfl <;> repeat first | exact trivial | refine ⟨rfl, ?_⟩ | refine ⟨by (simp only [go_sem, zA, zB, zC, zD, zE, zF, zG, reduceCtorEq, zH, zI, zJ, zK, zL, lA, lB, lC, lD, Nat.zero_add]) <;> rfl, ?_⟩)⟩)
      all_goals (unfold Is at hok ⊢; rw [lO, hx, lM, hok]; simp)
    · intro s hb hok
      simp only [go_sem, zA, zB, zC, zD, zE, zF, zG, reduceCtorEq, zH, zI, zJ, zK, zL]
      rw [Is, lK] at hok
      repeat' (first | (simp only [go_sem, zA, zB, zC, zD, zE, zF, zG, reduceCtorEq, zH, zI, zJ, zK, zL, encP_eq g, lB, hb]; all_goals fail_if_success guard_target =ₛ False) | (with_reducible first | ((first | refine yA rfl ?_ | refine yB rfl ?_ | refine yS ?_ | refine yT (by kernel_rfl) ?_); intro K hK) | (apply hK; clear hK K) | refine yU ?_ | (refine yV (by with_unfolding_all rfl) ?_ ?_ <;> intro h <;> (try simp only [zM, zN] at h) <;> try exact absurd h (by decide)) | refine yW ?_ | refine yX ?_ | refine yY ?_ | (refine ⟨fun h => ?_, fun h => ?_⟩ <;> (try simp only [zM, zN] at h) <;> try simp only [h]) | refine Or.inl ?_) | (clear hK K))
      refine ⟨_, Gh.freeze 900 rfl rfl (by simp only [go_sem, zA, zB, zC, zD, zE, zF, zG, reduceCtorEq, zH, zI, zJ, zK, zL, lB]) (by simp only [go_sem, zA, zB, zC, zD, zE, zF, zG, reduceCtorEq, zH, zI, zJ, zK, zL, lB]), ?_⟩
      simp only [go_sem, zA, zB, zC, zD, zE, zF, zG, reduceCtorEq, zH, zI, zJ, zK, zL, lB]
      all_goals (first | exact fun _ h => (by cases h) | refine fin0 ?_)
      all_goals (rw [show s = _ from hok]; rfl)
termination_by cntP g
decreasing_by exact cntP_kid hk
structure Grd where
  kind : Int
  name : List UInt8
  num : Int
  text : List UInt8
  key : KeyD
  kids : List Grd
mutual
def encG : Grd → List C
  | ⟨kind, name, num, text, key, kids⟩ => [.int .i64 kind, .str name, .int .i64 num, .str text, .int .i64 key.kind, .str key.text, .sl 7 (encGs kids)]
def encGs : List Grd → List (List C)
  | [] => []
  | g :: l => encG g :: encGs l
end
theorem encGs_eq : ∀ l : List Grd, encGs l = l.map encG
  | [] => by simp only [encGs, List.map_nil]
  | g :: l => by simp only [encGs, List.map_cons, encGs_eq l]
theorem encG_eq (g : Grd) : encG g = [.int .i64 g.kind, .str g.name, .int .i64 g.num, .str g.text, .int .i64 g.key.kind, .str g.key.text, .sl 7 (g.kids.map encG)] := by cases g; simp only [encG, encGs_eq]
theorem encG_lit (x : Grd) : encG x = [.int .i64 x.kind, .str x.name, .int .i64 x.num, .str x.text, .int .i64 x.key.kind, .str x.key.text, .sl 7 (x.kids.map encG)] := encG_eq x
@[go_sem] theorem encG_cut (x : Grd) : cutC 7 (encG x) = some (encG x, []) := by rw [encG_eq]; rfl
@[go_sem low] theorem encG_cutk (x : Grd) (k : Nat) : cutC k (encG x) = cutC k [.int .i64 x.kind, .str x.name, .int .i64 x.num, .str x.text, .int .i64 x.key.kind, .str x.key.text, .sl 7 (x.kids.map encG)] := by rw [encG_lit]
@[go_sem] theorem encG_cutm (x : Grd) : cutC 7 ((encG x).map Cell.dat) = some ((encG x).map Cell.dat, []) := by rw [encG_eq]; rfl
@[go_sem low] theorem encG_cutmk (x : Grd) (k : Nat) : cutC k ((encG x).map Cell.dat) = cutC k (([.int .i64 x.kind, .str x.name, .int .i64 x.num, .str x.text, .int .i64 x.key.kind, .str x.key.text, .sl 7 (x.kids.map encG)] : List C).map Cell.dat) := by rw [encG_lit]
@[go_sem] theorem encG_soft (x : Grd) : (encG x).map C.soft = encG x := by rw [encG_eq]; rfl
@[go_sem] theorem encG_len (x : Grd) : lenIs 7 (encG x) = true := by rw [encG_eq]; rfl
@[go_sem high] theorem encG_takeP (x : Grd) (n : Nat) (K : T → Prop) : takeP false n (encG x) K = K (.one (.dat (.int .i64 x.kind))) := by rw [encG_lit]; rfl
@[go_sem high] theorem encG_takeT (x : Grd) (n : Nat) (K : T → Prop) : takeT false n ((encG x).map Cell.dat) K = K (.one (.dat (.int .i64 x.kind))) := by rw [encG_lit]; rfl
@[go_sem] theorem encG_lenm (x : Grd) : lenIs 7 ((encG x).map Cell.dat) = true := by rw [encG_eq]; rfl
mutual
def cntG : Grd → Nat
  | ⟨_, _, _, _, _, kids⟩ => 1 + cntGs kids
def cntGs : List Grd → Nat
  | [] => 0
  | g :: l => cntG g + cntGs l
end
theorem cntG_eq (g : Grd) : cntG g = 1 + cntGs g.kids := by cases g; simp only [cntG]
theorem cntGs_mem : ∀ {l : List Grd} {g : Grd}, g ∈ l → cntG g ≤ cntGs l
  | x :: l, g, h => by
    simp only [cntGs]
    rcases List.mem_cons.1 h with rfl | h
    · omega
    · have := cntGs_mem h; omega
abbrev GSm (g : Grd) : Prop := cntG g ≤ 100000000
theorem cnt_kid {g k : Grd} (h : k ∈ g.kids) : cntG k < cntG g := by have := cntG_eq g; have := cntGs_mem h; omega
theorem GSm.kid {g : Grd} (h : GSm g) : ∀ k ∈ g.kids, GSm k := fun k hk => by have := cnt_kid hk; unfold GSm at *; omega
abbrev Gt (g : Grd) : T := .st (encG g)
end Go.Proofs.YteobojeemflggaaGreat



