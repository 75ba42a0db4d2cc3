/- A part of the proof. Conditions: those that each lemma states. -/
import Derived.Test.YteobojeemflggaaGreatPm17
import Derived.Test.YteobojeemflggaaGreatPm15
open Go.Proofs.Tryz renaming prog → zP
open List renaming length_append → lA, length_map → lB, length_cons → lC, length_nil → lD, take_succ_cons → lG, take_zero → lH, drop_succ_cons → lI, drop_zero → lJ, mem_singleton → lN, length_take → lQ
open Go.Sx renaming seqVC_stepN → yA, seqVC_stepG → yB, parVC_stepN → yC, parVC_stepG → yD, parEVC_stepN → yE, parEVC_stepG → yF, genVC_stepN → yG, genVC_stepG → yH
open Go.Sx.AWP renaming seq → yS, seqR → yT, block → yU, cond → yV, skip → yW, ret → yX, exit → yY, parR → yZ, segP → xB
open Go.Sx.Gh renaming to → xG
open Nat renaming reduceBEq → zA, reduceBNe → zB, reduceAdd → zC, reduceSub → zD, reduceMul → zE, reduceLeDiff → zF, reduceLT → zG, reduceEqDiff → zH
open Int renaming reduceToNat → zI, reduceLE → zJ, reduceLT → zK, reduceEq → zL
open Bool renaming not_eq_true' → zM, not_eq_false' → zN
set_option linter.unusedSimpArgs false
set_option linter.unusedVariables false
set_option maxRecDepth 20000
set_option maxHeartbeats 64000000
namespace Go.Proofs.YteobojeemflggaaGreat
open Go Go.Sx
def AlongC (g : Pat) : Prop := ∀ s : Src, s.ok → PCB zP 22 [Sp pin, Pt g] [(pin, srcB s)] (Vt (alongV g s).1) [(pin, srcB (alongV g s).2)]
theorem AlongC.k {g : Pat} (H : AlongC g) (k : Nat) (s : Src) (hs : s.ok) : PCBk zP 22 [Sp k, .st (encP g)] k (srcB s) (.st (encVal (alongV g s).1)) (srcB (alongV g s).2) := PCBk.mk k (H s hs)
theorem along_3 (g : Pat) (hk : g.kind = 3) : AlongC g := by
  intro s hs
  have hs1 := ok_full 2 s hs
  have kv : PCBk zP 11 [Sp 1000000, I .i64 2] 1000000 (srcB s) (.st (encVal (fullV 2 s).1)) (srcB (fullV 2 s).2) := PCBk.mk 1000000 (sourceValue_c 2 (by omega) s hs)
  rw [show alongV g s = (okV (intVal g.num), (fullV 2 s).2) from by rw [alongV_eq, hk]; rfl]
  have hc : PC zP 25 [I .i64 g.num] (.st (encVal (intVal g.num))) := refInt_c g.num
  generalize (fullV 2 s).1 = v0 at *
  generalize (fullV 2 s).2 = s1 at *
  have hvd := valid_c (intVal g.num)
  cases ht : treeB (intVal g.num) <;> rw [ht] at hvd <;> (unfold okV; rw [ht])
  all_goals
    refine PCB.of_body Tryz.func22 rfl (by decide) Tryz.ntmps22 Tryz.results22 rfl rfl rfl ?_ rfl rfl
    repeat' (first | (simp only [go_sem, zA, zB, zC, zD, zE, zF, zG, reduceCtorEq, zH, zI, zJ, zK, zL, pin, encP_eq g, hk]; all_goals fail_if_success guard_target =ₛ False) | (with_reducible first | ((first | refine yA rfl ?_ | refine yB rfl ?_ | refine yS ?_ | refine yT (by kernel_rfl) ?_ | refine yC rfl ?_ | refine yD rfl ?_ | refine yE rfl ?_ | refine yF rfl ?_ | refine yG rfl ?_ | refine yH rfl ?_); intro K hK) | (apply hK; clear hK K) | refine yU ?_ | (refine yV (by with_unfolding_all rfl) ?_ ?_ <;> intro h <;> (try simp only [zM, zN] at h) <;> try exact absurd h (by decide)) | refine yW ?_ | refine yX ?_ | refine yY ?_ | (refine ⟨fun h => ?_, fun h => ?_⟩ <;> (try simp only [zM, zN] at h) <;> try simp only [h]) | refine ⟨_, hc, ?_⟩ | refine ⟨_, hvd, ?_⟩ | refine ⟨_, refNil_c, ?_⟩) | (refine ⟨1000000, _, _, _, kv, rfl, ?_⟩) | (with_reducible first | (refine xB (id := 26) 7 mixed (by kernel_rfl) fun K hK => ?_; simp only [lG, lH, lI, lJ]) | refine yZ mixed (by kernel_rfl) fun K hK => ?_ | refine ⟨(by kernel_rfl : depB _ _ _ = true), ?_⟩ | refine Or.inl ?_) | (clear hK K))
  all_goals ((try refine ⟨by first | trivial | rfl, ?_⟩); intro x hx; simp only [lN] at hx; subst hx; simp)
theorem along_4 (g : Pat) (hk : g.kind = 4) : AlongC g := by
  intro s hs
  have hs1 := ok_full 2 s hs
  have kv : PCBk zP 11 [Sp 1000000, I .i64 2] 1000000 (srcB s) (.st (encVal (fullV 2 s).1)) (srcB (fullV 2 s).2) := PCBk.mk 1000000 (sourceValue_c 2 (by omega) s hs)
  rw [show alongV g s = (okV (strVal g.text), (fullV 2 s).2) from by rw [alongV_eq, hk]; rfl]
  have hc : PC zP 45 [S g.text] (.st (encVal (strVal g.text))) := refString_c g.text
  generalize (fullV 2 s).1 = v0 at *
  generalize (fullV 2 s).2 = s1 at *
  have hvd := valid_c (strVal g.text)
  cases ht : treeB (strVal g.text) <;> rw [ht] at hvd <;> (unfold okV; rw [ht])
  all_goals
    refine PCB.of_body Tryz.func22 rfl (by decide) Tryz.ntmps22 Tryz.results22 rfl rfl rfl ?_ rfl rfl
    repeat' (first | (simp only [go_sem, zA, zB, zC, zD, zE, zF, zG, reduceCtorEq, zH, zI, zJ, zK, zL, pin, encP_eq g, hk]; all_goals fail_if_success guard_target =ₛ False) | (with_reducible first | ((first | refine yA rfl ?_ | refine yB rfl ?_ | refine yS ?_ | refine yT (by kernel_rfl) ?_ | refine yC rfl ?_ | refine yD rfl ?_ | refine yE rfl ?_ | refine yF rfl ?_ | refine yG rfl ?_ | refine yH rfl ?_); intro K hK) | (apply hK; clear hK K) | refine yU ?_ | (refine yV (by with_unfolding_all rfl) ?_ ?_ <;> intro h <;> (try simp only [zM, zN] at h) <;> try exact absurd h (by decide)) | refine yW ?_ | refine yX ?_ | refine yY ?_ | (refine ⟨fun h => ?_, fun h => ?_⟩ <;> (try simp only [zM, zN] at h) <;> try simp only [h]) | refine ⟨_, hc, ?_⟩ | refine ⟨_, hvd, ?_⟩ | refine ⟨_, refNil_c, ?_⟩) | (refine ⟨1000000, _, _, _, kv, rfl, ?_⟩) | (with_reducible first | (refine xB (id := 26) 7 mixed (by kernel_rfl) fun K hK => ?_; simp only [lG, lH, lI, lJ]) | refine yZ mixed (by kernel_rfl) fun K hK => ?_ | refine ⟨(by kernel_rfl : depB _ _ _ = true), ?_⟩ | refine Or.inl ?_) | (clear hK K))
  all_goals ((try refine ⟨by first | trivial | rfl, ?_⟩); intro x hx; simp only [lN] at hx; subst hx; simp)
theorem along_5 (g : Pat) (hk : g.kind = 5) : AlongC g := by
  intro s hs
  have hs1 := ok_full 2 s hs
  have kv : PCBk zP 11 [Sp 1000000, I .i64 2] 1000000 (srcB s) (.st (encVal (fullV 2 s).1)) (srcB (fullV 2 s).2) := PCBk.mk 1000000 (sourceValue_c 2 (by omega) s hs)
  rw [show alongV g s = (okV (atomVal g.text), (fullV 2 s).2) from by rw [alongV_eq, hk]; rfl]
  have hc : PC zP 46 [S g.text] (.st (encVal (atomVal g.text))) := refAtomV_c g.text
  generalize (fullV 2 s).1 = v0 at *
  generalize (fullV 2 s).2 = s1 at *
  have hvd := valid_c (atomVal g.text)
  cases ht : treeB (atomVal g.text) <;> rw [ht] at hvd <;> (unfold okV; rw [ht])
  all_goals
    refine PCB.of_body Tryz.func22 rfl (by decide) Tryz.ntmps22 Tryz.results22 rfl rfl rfl ?_ rfl rfl
    repeat' (first | (simp only [go_sem, zA, zB, zC, zD, zE, zF, zG, reduceCtorEq, zH, zI, zJ, zK, zL, pin, encP_eq g, hk]; all_goals fail_if_success guard_target =ₛ False) | (with_reducible first | ((first | refine yA rfl ?_ | refine yB rfl ?_ | refine yS ?_ | refine yT (by kernel_rfl) ?_ | refine yC rfl ?_ | refine yD rfl ?_ | refine yE rfl ?_ | refine yF rfl ?_ | refine yG rfl ?_ | refine yH rfl ?_); intro K hK) | (apply hK; clear hK K) | refine yU ?_ | (refine yV (by with_unfolding_all rfl) ?_ ?_ <;> intro h <;> (try simp only [zM, zN] at h) <;> try exact absurd h (by decide)) | refine yW ?_ | refine yX ?_ | refine yY ?_ | (refine ⟨fun h => ?_, fun h => ?_⟩ <;> (try simp only [zM, zN] at h) <;> try simp only [h]) | refine ⟨_, hc, ?_⟩ | refine ⟨_, hvd, ?_⟩ | refine ⟨_, refNil_c, ?_⟩) | (refine ⟨1000000, _, _, _, kv, rfl, ?_⟩) | (with_reducible first | (refine xB (id := 26) 7 mixed (by kernel_rfl) fun K hK => ?_; simp only [lG, lH, lI, lJ]) | refine yZ mixed (by kernel_rfl) fun K hK => ?_ | refine ⟨(by kernel_rfl : depB _ _ _ = true), ?_⟩ | refine Or.inl ?_) | (clear hK K))
  all_goals ((try refine ⟨by first | trivial | rfl, ?_⟩); intro x hx; simp only [lN] at hx; subst hx; simp)
theorem along_6 (g : Pat) (hk : g.kind = 6) : AlongC g := by
  intro s hs
  have hs1 := ok_full 2 s hs
  have kv : PCBk zP 11 [Sp 1000000, I .i64 2] 1000000 (srcB s) (.st (encVal (fullV 2 s).1)) (srcB (fullV 2 s).2) := PCBk.mk 1000000 (sourceValue_c 2 (by omega) s hs)
  rw [show alongV g s = (okV nilVal, (fullV 2 s).2) from by rw [alongV_eq, hk]; rfl]
  have hc : PC zP 26 [] (.st (encVal nilVal)) := refNil_c
  generalize (fullV 2 s).1 = v0 at *
  generalize (fullV 2 s).2 = s1 at *
  have hvd := valid_c nilVal
  cases ht : treeB nilVal <;> rw [ht] at hvd <;> (unfold okV; rw [ht])
  all_goals
    refine PCB.of_body Tryz.func22 rfl (by decide) Tryz.ntmps22 Tryz.results22 rfl rfl rfl ?_ rfl rfl
    repeat' (first | (simp only [go_sem, zA, zB, zC, zD, zE, zF, zG, reduceCtorEq, zH, zI, zJ, zK, zL, pin, encP_eq g, hk]; all_goals fail_if_success guard_target =ₛ False) | (with_reducible first | ((first | refine yA rfl ?_ | refine yB rfl ?_ | refine yS ?_ | refine yT (by kernel_rfl) ?_ | refine yC rfl ?_ | refine yD rfl ?_ | refine yE rfl ?_ | refine yF rfl ?_ | refine yG rfl ?_ | refine yH rfl ?_); intro K hK) | (apply hK; clear hK K) | refine yU ?_ | (refine yV (by with_unfolding_all rfl) ?_ ?_ <;> intro h <;> (try simp only [zM, zN] at h) <;> try exact absurd h (by decide)) | refine yW ?_ | refine yX ?_ | refine yY ?_ | (refine ⟨fun h => ?_, fun h => ?_⟩ <;> (try simp only [zM, zN] at h) <;> try simp only [h]) | refine ⟨_, hc, ?_⟩ | refine ⟨_, hvd, ?_⟩ | refine ⟨_, refNil_c, ?_⟩) | (refine ⟨1000000, _, _, _, kv, rfl, ?_⟩) | (with_reducible first | (refine xB (id := 26) 7 mixed (by kernel_rfl) fun K hK => ?_; simp only [lG, lH, lI, lJ]) | refine yZ mixed (by kernel_rfl) fun K hK => ?_ | refine ⟨(by kernel_rfl : depB _ _ _ = true), ?_⟩ | refine Or.inl ?_) | (clear hK K))
  all_goals ((try refine ⟨by first | trivial | rfl, ?_⟩); intro x hx; simp only [lN] at hx; subst hx; simp)
theorem along_o (g : Pat) (hk3 : decide (g.kind = 3) = false) (hk4 : decide (g.kind = 4) = false) (hk5 : decide (g.kind = 5) = false) (hk6 : decide (g.kind = 6) = false) (hk7 : decide (g.kind = 7) = false) (hk8 : decide (g.kind = 8) = false) (hk9 : decide (g.kind = 9) = false) (hk10 : decide (g.kind = 10) = false) : AlongC g := by
  intro s hs
  have hs1 := ok_full 2 s hs
  have kv : PCBk zP 11 [Sp 1000000, I .i64 2] 1000000 (srcB s) (.st (encVal (fullV 2 s).1)) (srcB (fullV 2 s).2) := PCBk.mk 1000000 (sourceValue_c 2 (by omega) s hs)
  rw [show alongV g s = (okV (fullV 2 s).1, (fullV 2 s).2) from by rw [alongV_eq, hk3, hk4, hk5, hk6, hk7, hk8, hk9, hk10]; rfl]
  generalize (fullV 2 s).1 = v0 at *
  generalize (fullV 2 s).2 = s1 at *
  have hvd := valid_c v0
  cases ht : treeB v0 <;> rw [ht] at hvd <;> (unfold okV; rw [ht])
  all_goals
    refine PCB.of_body Tryz.func22 rfl (by decide) Tryz.ntmps22 Tryz.results22 rfl rfl rfl ?_ rfl rfl
    repeat' (first | (simp only [go_sem, zA, zB, zC, zD, zE, zF, zG, reduceCtorEq, zH, zI, zJ, zK, zL, pin, encP_eq g, hk3, hk4, hk5, hk6, hk7, hk8, hk9, hk10]; all_goals fail_if_success guard_target =ₛ False) | (with_reducible first | ((first | refine yA rfl ?_ | refine yB rfl ?_ | refine yS ?_ | refine yT (by kernel_rfl) ?_ | refine yC rfl ?_ | refine yD rfl ?_ | refine yE rfl ?_ | refine yF rfl ?_ | refine yG rfl ?_ | refine yH rfl ?_); intro K hK) | (apply hK; clear hK K) | refine yU ?_ | (refine yV (by with_unfolding_all rfl) ?_ ?_ <;> intro h <;> (try simp only [zM, zN] at h) <;> try exact absurd h (by decide)) | refine yW ?_ | refine yX ?_ | refine yY ?_ | (refine ⟨fun h => ?_, fun h => ?_⟩ <;> (try simp only [zM, zN] at h) <;> try simp only [h]) | refine ⟨_, hvd, ?_⟩ | refine ⟨_, refNil_c, ?_⟩) | (refine ⟨1000000, _, _, _, kv, rfl, ?_⟩) | (with_reducible first | (refine xB (id := 26) 7 mixed (by kernel_rfl) fun K hK => ?_; simp only [lG, lH, lI, lJ]) | refine yZ mixed (by kernel_rfl) fun K hK => ?_ | refine ⟨(by kernel_rfl : depB _ _ _ = true), ?_⟩ | refine Or.inl ?_) | (clear hK K))
  all_goals ((try refine ⟨by first | trivial | rfl, ?_⟩); intro x hx; simp only [lN] at hx; subst hx; simp)
theorem along_10 (g : Pat) (hk : g.kind = 10) (ih : ∀ k ∈ g.kids, AlongC k) : AlongC g := by
  intro s hs
  have hs1 := ok_full 2 s hs
  have kv : PCBk zP 11 [Sp 1000000, I .i64 2] 1000000 (srcB s) (.st (encVal (fullV 2 s).1)) (srcB (fullV 2 s).2) := PCBk.mk 1000000 (sourceValue_c 2 (by omega) s hs)
  cases hl : decide ((g.kids.length : Int) = 1)
  · rw [show alongV g s = (okV (fullV 2 s).1, (fullV 2 s).2) from by
      rw [alongV_eq, hk]
      show alongH g.kids (fullV 2 s) = _
      match hkk : g.kids, hl with
      | [], _ => rw [alongH]
      | [k], hl => simp at hl
      | k :: k2 :: r, _ => rw [alongH]; rfl]
    generalize (fullV 2 s).1 = v0 at *
    generalize (fullV 2 s).2 = s1 at *
    have hvd := valid_c v0
    cases ht : treeB v0 <;> rw [ht] at hvd <;> (unfold okV; rw [ht])
    all_goals
      refine PCB.of_body Tryz.func22 rfl (by decide) Tryz.ntmps22 Tryz.results22 rfl rfl rfl ?_ rfl rfl
      repeat' (first | (simp only [go_sem, zA, zB, zC, zD, zE, zF, zG, reduceCtorEq, zH, zI, zJ, zK, zL, pin, encP_eq g, hk, hl, lB]; all_goals fail_if_success guard_target =ₛ False) | (with_reducible first | ((first | refine yA rfl ?_ | refine yB rfl ?_ | refine yS ?_ | refine yT (by kernel_rfl) ?_ | refine yC rfl ?_ | refine yD rfl ?_ | refine yE rfl ?_ | refine yF rfl ?_ | refine yG rfl ?_ | refine yH rfl ?_); intro K hK) | (apply hK; clear hK K) | refine yU ?_ | (refine yV (by with_unfolding_all rfl) ?_ ?_ <;> intro h <;> (try simp only [zM, zN] at h) <;> try exact absurd h (by decide)) | refine yW ?_ | refine yX ?_ | refine yY ?_ | (refine ⟨fun h => ?_, fun h => ?_⟩ <;> (try simp only [zM, zN] at h) <;> try simp only [h]) | refine ⟨_, hvd, ?_⟩ | refine ⟨_, refNil_c, ?_⟩) | (refine ⟨1000000, _, _, _, kv, rfl, ?_⟩) | (with_reducible first | (refine xB (id := 26) 7 mixed (by kernel_rfl) fun K hK => ?_; simp only [lG, lH, lI, lJ]) | refine yZ mixed (by kernel_rfl) fun K hK => ?_ | refine ⟨(by kernel_rfl : depB _ _ _ = true), ?_⟩ | refine Or.inl ?_) | (clear hK K))
    all_goals ((try refine ⟨by first | trivial | rfl, ?_⟩); intro x hx; simp only [lN] at hx; subst hx; simp)
  · obtain ⟨k0, hk0⟩ := List.length_eq_one_iff.1 (show g.kids.length = 1 by simp only [decide_eq_true_eq] at hl; omega)
    have h0 := ih k0 (by rw [hk0]; simp)
    have hk0' : (g.kids.map encP)[0]? = some (encP k0) := by rw [hk0]; rfl
    rw [show alongV g s = (okV (alongV k0 (fullV 2 s).2).1, (alongV k0 (fullV 2 s).2).2) from by
      rw [alongV_eq, hk, hk0]
      show alongH [k0] (fullV 2 s) = _
      rw [alongH]; rfl]
    have ka := h0.k 1000000 _ hs1
    generalize (fullV 2 s).1 = v0 at *
    generalize (fullV 2 s).2 = s1 at *
    generalize (alongV k0 s1).1 = w at *
    generalize (alongV k0 s1).2 = s2 at *
    have hvd := valid_c w
    cases ht : treeB w <;> rw [ht] at hvd <;> (unfold okV; rw [ht])
    all_goals
      refine PCB.of_body Tryz.func22 rfl (by decide) Tryz.ntmps22 Tryz.results22 rfl rfl rfl ?_ rfl rfl
      repeat' (first | (simp only [go_sem, zA, zB, zC, zD, zE, zF, zG, reduceCtorEq, zH, zI, zJ, zK, zL, pin, encP_eq g, hk, hl, lB]; all_goals fail_if_success guard_target =ₛ False) | (with_reducible first | ((first | refine yA rfl ?_ | refine yB rfl ?_ | refine yS ?_ | refine yT (by kernel_rfl) ?_ | refine yC rfl ?_ | refine yD rfl ?_ | refine yE rfl ?_ | refine yF rfl ?_ | refine yG rfl ?_ | refine yH rfl ?_); intro K hK) | (apply hK; clear hK K) | refine yU ?_ | (refine yV (by with_unfolding_all rfl) ?_ ?_ <;> intro h <;> (try simp only [zM, zN] at h) <;> try exact absurd h (by decide)) | refine yW ?_ | refine yX ?_ | refine yY ?_ | (refine ⟨fun h => ?_, fun h => ?_⟩ <;> (try simp only [zM, zN] at h) <;> try simp only [h]) | refine ⟨_, hvd, ?_⟩ | refine ⟨_, refNil_c, ?_⟩ | refine ⟨encP k0, hk0', ?_⟩ | refine ⟨by omega, encP k0, hk0', ?_⟩) | (refine ⟨1000000, _, _, _, kv, rfl, ?_⟩) | (refine ⟨1000000, _, _, _, ka, rfl, ?_⟩) | (with_reducible first | (refine xB (id := 26) 7 mixed (by kernel_rfl) fun K hK => ?_; simp only [lG, lH, lI, lJ]) | refine yZ mixed (by kernel_rfl) fun K hK => ?_ | refine ⟨(by kernel_rfl : depB _ _ _ = true), ?_⟩ | refine Or.inl ?_) | (clear hK K))
    all_goals ((try refine ⟨by first | trivial | rfl, ?_⟩); intro x hx; simp only [lN] at hx; subst hx; simp)
theorem along_7 (g : Pat) (hg : PSm g) (hk : g.kind = 7) (ih : ∀ k ∈ g.kids, AlongC k) : AlongC g := by
  intro s hs
  have hs1 := ok_full 2 s hs
  have kv : PCBk zP 11 [Sp 1000000, I .i64 2] 1000000 (srcB s) (.st (encVal (fullV 2 s).1)) (srcB (fullV 2 s).2) := PCBk.mk 1000000 (sourceValue_c 2 (by omega) s hs)
  have hlk := cntPs_len g.kids
  unfold PSm at hg
  have hce := cntP_eq g
  rw [show alongV g s = (okV (tupVal (alongL g.kids (fullV 2 s).2).1), (alongL g.kids (fullV 2 s).2).2) from by rw [alongV_eq, hk]; rfl]
  generalize (fullV 2 s).1 = v0 at *
  generalize (fullV 2 s).2 = s1 at *
  refine PCB.of_body Tryz.func22 rfl (by decide) Tryz.ntmps22 Tryz.results22 rfl rfl rfl ?_ rfl rfl
  repeat' (first | (simp only [go_sem, zA, zB, zC, zD, zE, zF, zG, reduceCtorEq, zH, zI, zJ, zK, zL, pin, encP_eq g, hk, lB]; all_goals fail_if_success guard_target =ₛ False) | (with_reducible first | ((first | refine yA rfl ?_ | refine yB rfl ?_ | refine yS ?_ | refine yT (by kernel_rfl) ?_ | refine yC rfl ?_ | refine yD rfl ?_ | refine yE rfl ?_ | refine yF rfl ?_ | refine yG rfl ?_ | refine yH rfl ?_); intro K hK) | (apply hK; clear hK K) | refine yU ?_ | (refine yV (by with_unfolding_all rfl) ?_ ?_ <;> intro h <;> (try simp only [zM, zN] at h) <;> try exact absurd h (by decide)) | refine yW ?_ | refine yX ?_ | refine yY ?_ | (refine ⟨fun h => ?_, fun h => ?_⟩ <;> (try simp only [zM, zN] at h) <;> try simp only [h])) | (refine ⟨1000000, _, _, _, kv, rfl, ?_⟩) | (with_reducible first | (refine xB (id := 26) 7 mixed (by kernel_rfl) fun K hK => ?_; simp only [lG, lH, lI, lJ]) | refine yZ mixed (by kernel_rfl) fun K hK => ?_ | refine ⟨(by kernel_rfl : depB _ _ _ = true), ?_⟩ | refine Or.inl ?_) | (clear hK K))
  refine AWP.gh (Gh.nilrow 6 900 rfl rfl rfl (by first | rfl | simp [Bx.fresh, freshs_map, Cell.freshs, Cell.fresh])) ?_
  refine AWP.lenB 3 3 rfl rfl fun hlen0 => ?_
  (try rw [lB] at hlen0)
  refine AWP.range (S := Src × List Val) (g.kids) encP (fun k x => (7, I .i64 (k : Nat)) :: [(6, .one (.own 900 x.2.length))]) (fun k x => [(1000000, srcB x.1), (900, .row 7 (x.2.map encVal))]) [0, 3, 4, 5] [3, 4, 5] (fun k x => x.1.ok ∧ x.2.length = k ∧ alongL g.kids s1 = (x.2 ++ (alongL (g.kids.drop k) x.1).1, (alongL (g.kids.drop k) x.1).2)) ((s1, [])) (by simp only [go_sem, zA, zB, zC, zD, zE, zF, zG, reduceCtorEq, zH, zI, zJ, zK, zL, pin, encP_eq g]; exact (by refine xG [] ?_ ?_ rfl rfl rfl <;> repeat first | exact trivial | refine ⟨rfl, ?_⟩ | refine ⟨by (simp only [go_sem, zA, zB, zC, zD, zE, zF, zG, reduceCtorEq, zH, zI, zJ, zK, zL, lA, lB, lC, lD, Nat.zero_add]) <;> rfl, ?_⟩)) ?_ ?_ ?_
  · exact ⟨hs1, rfl, by simp⟩
  · rintro k ⟨st, acc⟩ x hlt hx hx' hb ⟨hst, hal, hok⟩
    simp only at hst hal hok
    simp only [go_sem, zA, zB, zC, zD, zE, zF, zG, reduceCtorEq, zH, zI, zJ, zK, zL]
    have ka := (ih x (List.mem_of_getElem? hx)).k 1000000 st hst
    rw [alongL_step st hx] at hok
    have hst2 := ok_along x st hst
    repeat' (first | (simp only [go_sem, zA, zB, zC, zD, zE, zF, zG, reduceCtorEq, zH, zI, zJ, zK, zL, pin, encP_eq g, lB, hb, val_snoc1]; all_goals fail_if_success guard_target =ₛ False) | (with_reducible first | ((first | refine yA rfl ?_ | refine yB rfl ?_ | refine yS ?_ | refine yT (by kernel_rfl) ?_ | refine yC rfl ?_ | refine yD rfl ?_ | refine yE rfl ?_ | refine yF rfl ?_ | refine yG rfl ?_ | refine yH rfl ?_); intro K hK) | (apply hK; clear hK K) | refine yU ?_ | (refine yV (by with_unfolding_all rfl) ?_ ?_ <;> intro h <;> (try simp only [zM, zN] at h) <;> try exact absurd h (by decide)) | refine yW ?_ | refine yX ?_ | refine yY ?_ | (refine ⟨fun h => ?_, fun h => ?_⟩ <;> (try simp only [zM, zN] at h) <;> try simp only [h]) | refine ⟨by omega, encP x, hx', ?_⟩ | (refine ⟨(by first | omega | (simp only [lA, lB, lQ, List.length_drop, lC, lD, List.length_replicate]; omega) : _ ≤ _), ?_⟩) | refine ⟨by omega, by omega, ?_⟩) | (refine ⟨1000000, _, _, _, ka, rfl, ?_⟩) | (with_reducible first | (refine xB (id := 26) 7 mixed (by kernel_rfl) fun K hK => ?_; simp only [lG, lH, lI, lJ]) | refine yZ mixed (by kernel_rfl) fun K hK => ?_ | refine ⟨(by kernel_rfl : depB _ _ _ = true), ?_⟩ | refine Or.inl ?_) | (clear hK K))
    all_goals (rw [wrap_succ hlt hlen0])
    all_goals (refine ⟨((alongV x st).2, acc ++ [(alongV x st).1]), ?_, (by refine xG [(900, 65)] ?_ ?_ rfl rfl rfl <;> repeat first | exact trivial | refine ⟨rfl, ?_⟩ | refine ⟨by (simp only [go_sem, zA, zB, zC, zD, zE, zF, zG, reduceCtorEq, zH, zI, zJ, zK, zL, lA, lB, lC, lD, Nat.zero_add]) <;> rfl, ?_⟩)⟩)
    all_goals (refine ⟨hst2, by simp [hal], ?_⟩; rw [hok]; simp)
  · rintro ⟨s2, l⟩ hb ⟨hs2, hll, hok⟩
    simp only at hs2 hll hok
    simp only [go_sem, zA, zB, zC, zD, zE, zF, zG, reduceCtorEq, zH, zI, zJ, zK, zL]
    rw [alongL_end] at hok
    have hL1 : (alongL g.kids s1).1 = l := by rw [hok]; simp
    have hL2 : (alongL g.kids s1).2 = s2 := by rw [hok]
    have hlt : l.length ≤ 100000000 := by omega
    have ktup : PCBk zP 47 [.one (.own 900 l.length)] 900 (.row 7 (l.map encVal)) (.st (encVal (tupVal l))) (.row 7 (l.map encVal)) := PCBk.mk 900 (tuple_o l hlt)
    have hvd := valid_c (tupVal l)
    have hval : okV (tupVal (alongL g.kids s1).1) = bif treeB (tupVal l) then (tupVal l) else nilVal := by rw [hL1]; rfl
    cases ht : treeB (tupVal l) <;> rw [ht] at hvd
    all_goals
      repeat' (first | (simp only [go_sem, zA, zB, zC, zD, zE, zF, zG, reduceCtorEq, zH, zI, zJ, zK, zL, pin, encP_eq g, hk, lB, hb]; all_goals fail_if_success guard_target =ₛ False) | (with_reducible first | ((first | refine yA rfl ?_ | refine yB rfl ?_ | refine yS ?_ | refine yT (by kernel_rfl) ?_ | refine yC rfl ?_ | refine yD rfl ?_ | refine yE rfl ?_ | refine yF rfl ?_ | refine yG rfl ?_ | refine yH rfl ?_); intro K hK) | (apply hK; clear hK K) | refine yU ?_ | (refine yV (by with_unfolding_all rfl) ?_ ?_ <;> intro h <;> (try simp only [zM, zN] at h) <;> try exact absurd h (by decide)) | refine yW ?_ | refine yX ?_ | refine yY ?_ | (refine ⟨fun h => ?_, fun h => ?_⟩ <;> (try simp only [zM, zN] at h) <;> try simp only [h]) | refine ⟨_, hvd, ?_⟩ | refine ⟨_, refNil_c, ?_⟩) | (apply Or.inr; refine ⟨900, _, _, _, ktup, rfl, ?_⟩; simp only [go_sem, zA, zB, zC, zD, zE, zF, zG, reduceCtorEq, zH, zI, zJ, zK, zL]) | (with_reducible first | (refine xB (id := 26) 7 mixed (by kernel_rfl) fun K hK => ?_; simp only [lG, lH, lI, lJ]) | refine yZ mixed (by kernel_rfl) fun K hK => ?_ | refine ⟨(by kernel_rfl : depB _ _ _ = true), ?_⟩ | refine Or.inl ?_) | (clear hK K))
    all_goals (rw [hval, hL2, ht])
    all_goals ((try refine ⟨by first | trivial | rfl, ?_⟩); intro x hx; simp only [lN] at hx; subst hx; simp)
theorem along_8 (g : Pat) (hg : PSm g) (hk : g.kind = 8) (ih : ∀ k ∈ g.kids, AlongC k) : AlongC g := by
  intro s hs
  have hs1 := ok_full 2 s hs
  have kv : PCBk zP 11 [Sp 1000000, I .i64 2] 1000000 (srcB s) (.st (encVal (fullV 2 s).1)) (srcB (fullV 2 s).2) := PCBk.mk 1000000 (sourceValue_c 2 (by omega) s hs)
  have hlk := cntPs_len g.kids
  unfold PSm at hg
  have hce := cntP_eq g
  rw [show alongV g s = (okV (fixV (alongL g.kids (fullV 2 s).2).1), (alongL g.kids (fullV 2 s).2).2) from by rw [alongV_eq, hk]; rfl]
  generalize (fullV 2 s).1 = v0 at *
  generalize (fullV 2 s).2 = s1 at *
  refine PCB.of_body Tryz.func22 rfl (by decide) Tryz.ntmps22 Tryz.results22 rfl rfl rfl ?_ rfl rfl
  repeat' (first | (simp only [go_sem, zA, zB, zC, zD, zE, zF, zG, reduceCtorEq, zH, zI, zJ, zK, zL, pin, encP_eq g, hk, lB]; all_goals fail_if_success guard_target =ₛ False) | (with_reducible first | ((first | refine yA rfl ?_ | refine yB rfl ?_ | refine yS ?_ | refine yT (by kernel_rfl) ?_ | refine yC rfl ?_ | refine yD rfl ?_ | refine yE rfl ?_ | refine yF rfl ?_ | refine yG rfl ?_ | refine yH rfl ?_); intro K hK) | (apply hK; clear hK K) | refine yU ?_ | (refine yV (by with_unfolding_all rfl) ?_ ?_ <;> intro h <;> (try simp only [zM, zN] at h) <;> try exact absurd h (by decide)) | refine yW ?_ | refine yX ?_ | refine yY ?_ | (refine ⟨fun h => ?_, fun h => ?_⟩ <;> (try simp only [zM, zN] at h) <;> try simp only [h])) | (refine ⟨1000000, _, _, _, kv, rfl, ?_⟩) | (with_reducible first | (refine xB (id := 26) 7 mixed (by kernel_rfl) fun K hK => ?_; simp only [lG, lH, lI, lJ]) | refine yZ mixed (by kernel_rfl) fun K hK => ?_ | refine ⟨(by kernel_rfl : depB _ _ _ = true), ?_⟩ | refine Or.inl ?_) | (clear hK K))
  refine AWP.gh (Gh.nilrow 6 900 rfl rfl rfl (by first | rfl | simp [Bx.fresh, freshs_map, Cell.freshs, Cell.fresh])) ?_
  refine AWP.lenB 3 3 rfl rfl fun hlen0 => ?_
  (try rw [lB] at hlen0)
  refine AWP.range (S := Src × List Val) (g.kids) encP (fun k x => (7, I .i64 (k : Nat)) :: [(6, .one (.own 900 x.2.length))]) (fun k x => [(1000000, srcB x.1), (900, .row 7 (x.2.map encVal))]) [0, 3, 4, 5] [3, 4, 5] (fun k x => x.1.ok ∧ x.2.length = k ∧ alongL g.kids s1 = (x.2 ++ (alongL (g.kids.drop k) x.1).1, (alongL (g.kids.drop k) x.1).2)) ((s1, [])) (by simp only [go_sem, zA, zB, zC, zD, zE, zF, zG, reduceCtorEq, zH, zI, zJ, zK, zL, pin, encP_eq g]; exact (by refine xG [] ?_ ?_ rfl rfl rfl <;> repeat first | exact trivial | refine ⟨rfl, ?_⟩ | refine ⟨by (simp only [go_sem, zA, zB, zC, zD, zE, zF, zG, reduceCtorEq, zH, zI, zJ, zK, zL, lA, lB, lC, lD, Nat.zero_add]) <;> rfl, ?_⟩)) ?_ ?_ ?_
  · exact ⟨hs1, rfl, by simp⟩
  · rintro k ⟨st, acc⟩ x hlt hx hx' hb ⟨hst, hal, hok⟩
    simp only at hst hal hok
    simp only [go_sem, zA, zB, zC, zD, zE, zF, zG, reduceCtorEq, zH, zI, zJ, zK, zL]
    have ka := (ih x (List.mem_of_getElem? hx)).k 1000000 st hst
    rw [alongL_step st hx] at hok
    have hst2 := ok_along x st hst
    repeat' (first | (simp only [go_sem, zA, zB, zC, zD, zE, zF, zG, reduceCtorEq, zH, zI, zJ, zK, zL, pin, encP_eq g, lB, hb, val_snoc1]; all_goals fail_if_success guard_target =ₛ False) | (with_reducible first | ((first | refine yA rfl ?_ | refine yB rfl ?_ | refine yS ?_ | refine yT (by kernel_rfl) ?_ | refine yC rfl ?_ | refine yD rfl ?_ | refine yE rfl ?_ | refine yF rfl ?_ | refine yG rfl ?_ | refine yH rfl ?_); intro K hK) | (apply hK; clear hK K) | refine yU ?_ | (refine yV (by with_unfolding_all rfl) ?_ ?_ <;> intro h <;> (try simp only [zM, zN] at h) <;> try exact absurd h (by decide)) | refine yW ?_ | refine yX ?_ | refine yY ?_ | (refine ⟨fun h => ?_, fun h => ?_⟩ <;> (try simp only [zM, zN] at h) <;> try simp only [h]) | refine ⟨by omega, encP x, hx', ?_⟩ | (refine ⟨(by first | omega | (simp only [lA, lB, lQ, List.length_drop, lC, lD, List.length_replicate]; omega) : _ ≤ _), ?_⟩) | refine ⟨by omega, by omega, ?_⟩) | (refine ⟨1000000, _, _, _, ka, rfl, ?_⟩) | (with_reducible first | (refine xB (id := 26) 7 mixed (by kernel_rfl) fun K hK => ?_; simp only [lG, lH, lI, lJ]) | refine yZ mixed (by kernel_rfl) fun K hK => ?_ | refine ⟨(by kernel_rfl : depB _ _ _ = true), ?_⟩ | refine Or.inl ?_) | (clear hK K))
    all_goals (rw [wrap_succ hlt hlen0])
    all_goals (refine ⟨((alongV x st).2, acc ++ [(alongV x st).1]), ?_, (by refine xG [(900, 65)] ?_ ?_ rfl rfl rfl <;> repeat first | exact trivial | refine ⟨rfl, ?_⟩ | refine ⟨by (simp only [go_sem, zA, zB, zC, zD, zE, zF, zG, reduceCtorEq, zH, zI, zJ, zK, zL, lA, lB, lC, lD, Nat.zero_add]) <;> rfl, ?_⟩)⟩)
    all_goals (refine ⟨hst2, by simp [hal], ?_⟩; rw [hok]; simp)
  · rintro ⟨s2, l⟩ hb ⟨hs2, hll, hok⟩
    simp only at hs2 hll hok
    simp only [go_sem, zA, zB, zC, zD, zE, zF, zG, reduceCtorEq, zH, zI, zJ, zK, zL]
    rw [alongL_end] at hok
    have hL1 : (alongL g.kids s1).1 = l := by rw [hok]; simp
    have hL2 : (alongL g.kids s1).2 = s2 := by rw [hok]
    have hlt : l.length ≤ 100000000 := by omega
    have ktup : PCBk zP 47 [.one (.own 900 l.length)] 900 (.row 7 (l.map encVal)) (.st (encVal (tupVal l))) (.row 7 (l.map encVal)) := PCBk.mk 900 (tuple_o l hlt)
    cases h2 : decide ((l.length : Int) = 2)
    ·
      have hfx : fixV l = tupVal l := by
        simp only [decide_eq_false_iff_not] at h2
        match l, h2 with
        | [], _ => rfl
        | [a], _ => rfl
        | [a, b], h => simp at h
        | a :: b :: c :: r, _ => rfl
      have hvd := valid_c (tupVal l)
      have hval : okV (fixV (alongL g.kids s1).1) = bif treeB (tupVal l) then (tupVal l) else nilVal := by rw [hL1, hfx]; rfl
      cases ht : treeB (tupVal l) <;> rw [ht] at hvd
      all_goals
        repeat' (first | (simp only [go_sem, zA, zB, zC, zD, zE, zF, zG, reduceCtorEq, zH, zI, zJ, zK, zL, pin, encP_eq g, hk, h2, lB, hb]; all_goals fail_if_success guard_target =ₛ False) | (with_reducible first | ((first | refine yA rfl ?_ | refine yB rfl ?_ | refine yS ?_ | refine yT (by kernel_rfl) ?_ | refine yC rfl ?_ | refine yD rfl ?_ | refine yE rfl ?_ | refine yF rfl ?_ | refine yG rfl ?_ | refine yH rfl ?_); intro K hK) | (apply hK; clear hK K) | refine yU ?_ | (refine yV (by with_unfolding_all rfl) ?_ ?_ <;> intro h <;> (try simp only [zM, zN] at h) <;> try exact absurd h (by decide)) | refine yW ?_ | refine yX ?_ | refine yY ?_ | (refine ⟨fun h => ?_, fun h => ?_⟩ <;> (try simp only [zM, zN] at h) <;> try simp only [h]) | refine ⟨_, hvd, ?_⟩ | refine ⟨_, refNil_c, ?_⟩) | (apply Or.inr; refine ⟨900, _, _, _, ktup, rfl, ?_⟩; simp only [go_sem, zA, zB, zC, zD, zE, zF, zG, reduceCtorEq, zH, zI, zJ, zK, zL]) | (with_reducible first | (refine xB (id := 26) 7 mixed (by kernel_rfl) fun K hK => ?_; simp only [lG, lH, lI, lJ]) | refine yZ mixed (by kernel_rfl) fun K hK => ?_ | refine ⟨(by kernel_rfl : depB _ _ _ = true), ?_⟩ | refine Or.inl ?_) | (clear hK K))
      all_goals (rw [hval, hL2, ht])
      all_goals ((try refine ⟨by first | trivial | rfl, ?_⟩); intro x hx; simp only [lN] at hx; subst hx; simp)
    ·
      obtain ⟨a, b, rfl⟩ : ∃ a b, l = [a, b] := by
        simp only [decide_eq_true_eq] at h2
        match l, h2 with
        | [a, b], _ => exact ⟨a, b, rfl⟩
        | [], h => simp at h
        | [a], h => simp at h
        | a :: b :: c :: r, h => simp at h; omega
      have ktup2 : PCBk zP 47 [.one (.own 900 2)] 900 (.row 7 [encVal a, encVal b]) (.st (encVal (tupVal [a, b]))) (.row 7 [encVal a, encVal b]) := ktup
      have hset : [encVal a, encVal b].set 1 (encVal nilVal) = [encVal a, encVal nilVal] := rfl
      have hc1 : PC zP 48 [.st (encVal a), .st (encVal b)] (.st (encVal (consVal a b))) := refCons_c a b
      have hc2 : PC zP 48 [.st (encVal a), .st (encVal nilVal)] (.st (encVal (consVal a nilVal))) := refCons_c a nilVal
      have hfx : fixV [a, b] = consVal a (bif decide (b.kind = 5) || decide (b.kind = 7) then b else nilVal) := rfl
      have hv1 := valid_c (consVal a b)
      have hv2 := valid_c (consVal a nilVal)
      cases h5 : decide (b.kind = 5) <;> cases h7 : decide (b.kind = 7) <;> cases ht1 : treeB (consVal a b) <;> cases ht2 : treeB (consVal a nilVal) <;> rw [ht1] at hv1 <;> rw [ht2] at hv2
      all_goals
        repeat' (first | (simp only [go_sem, zA, zB, zC, zD, zE, zF, zG, reduceCtorEq, zH, zI, zJ, zK, zL, pin, encP_eq g, hk, h2, h5, h7, lB, hb, hset, List.map_cons, List.map_nil]; all_goals fail_if_success guard_target =ₛ False) | (with_reducible first | ((first | refine yA rfl ?_ | refine yB rfl ?_ | refine yS ?_ | refine yT (by kernel_rfl) ?_ | refine yC rfl ?_ | refine yD rfl ?_ | refine yE rfl ?_ | refine yF rfl ?_ | refine yG rfl ?_ | refine yH rfl ?_); intro K hK) | (apply hK; clear hK K) | refine yU ?_ | (refine yV (by with_unfolding_all rfl) ?_ ?_ <;> intro h <;> (try simp only [zM, zN] at h) <;> try exact absurd h (by decide)) | refine yW ?_ | refine yX ?_ | refine yY ?_ | (refine ⟨fun h => ?_, fun h => ?_⟩ <;> (try simp only [zM, zN] at h) <;> try simp only [h]) | refine ⟨_, hc1, ?_⟩ | refine ⟨_, hc2, ?_⟩ | refine ⟨_, hv1, ?_⟩ | refine ⟨_, hv2, ?_⟩ | refine ⟨_, refNil_c, ?_⟩) | (apply Or.inr; refine ⟨900, _, _, _, ktup2, rfl, ?_⟩; simp only [go_sem, zA, zB, zC, zD, zE, zF, zG, reduceCtorEq, zH, zI, zJ, zK, zL]) | (with_reducible first | (refine AWP.genR (id := 26) [7] [5] mixed (by kernel_rfl) fun K hK => ?_; simp only [Bx.outs, Bx.drop, cond_true, cond_false, Nat.reduceBEq, go_sem]) | refine yZ mixed (by kernel_rfl) fun K hK => ?_ | refine ⟨(by kernel_rfl : depB _ _ _ = true), ?_⟩ | refine Or.inl ?_) | (clear hK K))
      all_goals (rw [hL1, hL2, hfx, h5, h7])
      all_goals (simp only [okV, Bool.or_true, Bool.or_false, Bool.true_or, Bool.false_or, cond_true, cond_false, ht1, ht2])
      all_goals ((try refine ⟨by first | trivial | rfl, ?_⟩); intro x hx; simp only [lN] at hx; subst hx; simp)
theorem key_snoc1 (l : List KeyD) : l.map encKey ++ [[.int .i64 0, .str [111, 116, 104, 101, 114]]] = (l ++ [otherK]).map encKey := by
  rw [List.map_append]; rfl
theorem along_9 (g : Pat) (hg : PSm g) (hkk : g.keys.length ≤ 1000) (hk : g.kind = 9) (ih : ∀ k ∈ g.kids, AlongC k) : AlongC g := by
  intro s hs
  have hs1 := ok_full 2 s hs
  have kv : PCBk zP 11 [Sp 1000000, I .i64 2] 1000000 (srcB s) (.st (encVal (fullV 2 s).1)) (srcB (fullV 2 s).2) := PCBk.mk 1000000 (sourceValue_c 2 (by omega) s hs)
  have hlk := cntPs_len g.kids
  unfold PSm at hg
  have hce := cntP_eq g
  rw [show alongV g s = (okV (mapA g.keys (alongL g.kids (fullV 2 s).2).1 (alongL g.kids (fullV 2 s).2).2).1, (mapA g.keys (alongL g.kids (fullV 2 s).2).1 (alongL g.kids (fullV 2 s).2).2).2) from by rw [alongV_eq, hk]; rfl]
  generalize (fullV 2 s).1 = v0 at *
  generalize (fullV 2 s).2 = s1 at *
  refine PCB.of_body Tryz.func22 rfl (by decide) Tryz.ntmps22 Tryz.results22 rfl rfl rfl ?_ rfl rfl
  repeat' (first | (simp only [go_sem, zA, zB, zC, zD, zE, zF, zG, reduceCtorEq, zH, zI, zJ, zK, zL, pin, encP_eq g, hk, lB]; all_goals fail_if_success guard_target =ₛ False) | (with_reducible first | ((first | refine yA rfl ?_ | refine yB rfl ?_ | refine yS ?_ | refine yT (by kernel_rfl) ?_ | refine yC rfl ?_ | refine yD rfl ?_ | refine yE rfl ?_ | refine yF rfl ?_ | refine yG rfl ?_ | refine yH rfl ?_); intro K hK) | (apply hK; clear hK K) | refine yU ?_ | (refine yV (by with_unfolding_all rfl) ?_ ?_ <;> intro h <;> (try simp only [zM, zN] at h) <;> try exact absurd h (by decide)) | refine yW ?_ | refine yX ?_ | refine yY ?_ | (refine ⟨fun h => ?_, fun h => ?_⟩ <;> (try simp only [zM, zN] at h) <;> try simp only [h])) | (refine ⟨1000000, _, _, _, kv, rfl, ?_⟩) | (with_reducible first | (refine xB (id := 26) 7 mixed (by kernel_rfl) fun K hK => ?_; simp only [lG, lH, lI, lJ]) | refine yZ mixed (by kernel_rfl) fun K hK => ?_ | refine ⟨(by kernel_rfl : depB _ _ _ = true), ?_⟩ | refine Or.inl ?_) | (clear hK K))
  refine AWP.gh (Gh.nilrow 6 900 rfl rfl rfl (by first | rfl | simp [Bx.fresh, freshs_map, Cell.freshs, Cell.fresh])) ?_
  refine AWP.lenB 3 3 rfl rfl fun hlen0 => ?_
  (try rw [lB] at hlen0)
  refine AWP.range (S := Src × List Val) (g.kids) encP (fun k x => (7, I .i64 (k : Nat)) :: [(6, .one (.own 900 x.2.length))]) (fun k x => [(1000000, srcB x.1), (900, .row 7 (x.2.map encVal))]) [0, 3, 4, 5] [3, 4, 5] (fun k x => x.1.ok ∧ x.2.length = k ∧ alongL g.kids s1 = (x.2 ++ (alongL (g.kids.drop k) x.1).1, (alongL (g.kids.drop k) x.1).2)) ((s1, [])) (by simp only [go_sem, zA, zB, zC, zD, zE, zF, zG, reduceCtorEq, zH, zI, zJ, zK, zL, pin, encP_eq g]; exact (by refine xG [] ?_ ?_ rfl rfl rfl <;> repeat first | exact trivial | refine ⟨rfl, ?_⟩ | refine ⟨by (simp only [go_sem, zA, zB, zC, zD, zE, zF, zG, reduceCtorEq, zH, zI, zJ, zK, zL, lA, lB, lC, lD, Nat.zero_add]) <;> rfl, ?_⟩)) ?_ ?_ ?_
  · exact ⟨hs1, rfl, by simp⟩
  · rintro k ⟨st, acc⟩ x hlt hx hx' hb ⟨hst, hal, hok⟩
    simp only at hst hal hok
    simp only [go_sem, zA, zB, zC, zD, zE, zF, zG, reduceCtorEq, zH, zI, zJ, zK, zL]
    have ka := (ih x (List.mem_of_getElem? hx)).k 1000000 st hst
    rw [alongL_step st hx] at hok
    have hst2 := ok_along x st hst
    repeat' (first | (simp only [go_sem, zA, zB, zC, zD, zE, zF, zG, reduceCtorEq, zH, zI, zJ, zK, zL, pin, encP_eq g, lB, hb, val_snoc1]; all_goals fail_if_success guard_target =ₛ False) | (with_reducible first | ((first | refine yA rfl ?_ | refine yB rfl ?_ | refine yS ?_ | refine yT (by kernel_rfl) ?_ | refine yC rfl ?_ | refine yD rfl ?_ | refine yE rfl ?_ | refine yF rfl ?_ | refine yG rfl ?_ | refine yH rfl ?_); intro K hK) | (apply hK; clear hK K) | refine yU ?_ | (refine yV (by with_unfolding_all rfl) ?_ ?_ <;> intro h <;> (try simp only [zM, zN] at h) <;> try exact absurd h (by decide)) | refine yW ?_ | refine yX ?_ | refine yY ?_ | (refine ⟨fun h => ?_, fun h => ?_⟩ <;> (try simp only [zM, zN] at h) <;> try simp only [h]) | refine ⟨by omega, encP x, hx', ?_⟩ | (refine ⟨(by first | omega | (simp only [lA, lB, lQ, List.length_drop, lC, lD, List.length_replicate]; omega) : _ ≤ _), ?_⟩) | refine ⟨by omega, by omega, ?_⟩) | (refine ⟨1000000, _, _, _, ka, rfl, ?_⟩) | (with_reducible first | (refine xB (id := 26) 7 mixed (by kernel_rfl) fun K hK => ?_; simp only [lG, lH, lI, lJ]) | refine yZ mixed (by kernel_rfl) fun K hK => ?_ | refine ⟨(by kernel_rfl : depB _ _ _ = true), ?_⟩ | refine Or.inl ?_) | (clear hK K))
    all_goals (rw [wrap_succ hlt hlen0])
    all_goals (refine ⟨((alongV x st).2, acc ++ [(alongV x st).1]), ?_, (by refine xG [(900, 65)] ?_ ?_ rfl rfl rfl <;> repeat first | exact trivial | refine ⟨rfl, ?_⟩ | refine ⟨by (simp only [go_sem, zA, zB, zC, zD, zE, zF, zG, reduceCtorEq, zH, zI, zJ, zK, zL, lA, lB, lC, lD, Nat.zero_add]) <;> rfl, ?_⟩)⟩)
    all_goals (refine ⟨hst2, by simp [hal], ?_⟩; rw [hok]; simp)
  · rintro ⟨s2, l⟩ hb ⟨hs2, hll, hok⟩
    simp only at hs2 hll hok
    simp only [go_sem, zA, zB, zC, zD, zE, zF, zG, reduceCtorEq, zH, zI, zJ, zK, zL]
    rw [alongL_end] at hok
    have hL1 : (alongL g.kids s1).1 = l := by rw [hok]; simp
    have hL2 : (alongL g.kids s1).2 = s2 := by rw [hok]
    have hlt : l.length ≤ 100000000 := by omega
    have ktup : PCBk zP 47 [.one (.own 900 l.length)] 900 (.row 7 (l.map encVal)) (.st (encVal (tupVal l))) (.row 7 (l.map encVal)) := PCBk.mk 900 (tuple_o l hlt)
    have kn := next_k 1000000 s2 hs2 2 (by omega)
    have hs3 := ok_next hs2 2
    have kv1 : PCBk zP 11 [Sp 1000000, I .i64 1] 1000000 (srcB (nextS s2 2)) (.st (encVal (fullV 1 (nextS s2 2)).1)) (srcB (fullV 1 (nextS s2 2)).2) := PCBk.mk 1000000 (sourceValue_c 1 (by omega) _ hs3)
    cases hnx : decide (nextV s2 2 = 1)
    · have hmap := refMap_c g.keys l (by omega)
      have hw : (0 : Int) = 0 := rfl
      have hw4 : (0 : Int) = 0 := rfl
      have hmp : mapA g.keys l s2 = (bif decide ((mapV g.keys l).2 = 0) then (mapV g.keys l).1 else tupVal l, (nextS s2 2)) := by unfold mapA; rw [hnx]; simp only [cond_true, cond_false, hw, hw4]
      have hv1 := valid_c (tupVal l)
      have hv2 := valid_c (mapV g.keys l).1
      cases hm : decide ((mapV g.keys l).2 = 0) <;> cases ht1 : treeB (tupVal l) <;> cases ht2 : treeB (mapV g.keys l).1 <;> rw [ht1] at hv1 <;> rw [ht2] at hv2
      all_goals
        repeat' (first | (simp only [go_sem, zA, zB, zC, zD, zE, zF, zG, reduceCtorEq, zH, zI, zJ, zK, zL, pin, encP_eq g, hk, hnx, hm, lB, hb, key_snoc1, val_snoc1, lA]; all_goals fail_if_success guard_target =ₛ False) | (with_reducible first | ((first | refine yA rfl ?_ | refine yB rfl ?_ | refine yS ?_ | refine yT (by kernel_rfl) ?_ | refine yC rfl ?_ | refine yD rfl ?_ | refine yE rfl ?_ | refine yF rfl ?_ | refine yG rfl ?_ | refine yH rfl ?_); intro K hK) | (apply hK; clear hK K) | refine yU ?_ | (refine yV (by with_unfolding_all rfl) ?_ ?_ <;> intro h <;> (try simp only [zM, zN] at h) <;> try exact absurd h (by decide)) | refine yW ?_ | refine yX ?_ | refine yY ?_ | (refine ⟨fun h => ?_, fun h => ?_⟩ <;> (try simp only [zM, zN] at h) <;> try simp only [h]) | refine ⟨_, hmap, ?_⟩ | refine ⟨_, hv1, ?_⟩ | refine ⟨_, hv2, ?_⟩ | refine ⟨_, refNil_c, ?_⟩ | (refine ⟨(by first | omega | (simp only [lA, lB, lQ, List.length_drop, lC, lD, List.length_replicate]; omega) : _ ≤ _), ?_⟩) | refine ⟨by omega, by omega, ?_⟩) | (apply Or.inr; refine ⟨900, _, _, _, ktup, rfl, ?_⟩; simp only [go_sem, zA, zB, zC, zD, zE, zF, zG, reduceCtorEq, zH, zI, zJ, zK, zL]) | (refine ⟨1000000, _, _, _, kn, rfl, ?_⟩) | (with_reducible first | (refine xB (id := 26) 7 mixed (by kernel_rfl) fun K hK => ?_; simp only [lG, lH, lI, lJ]) | refine yZ mixed (by kernel_rfl) fun K hK => ?_ | refine ⟨(by kernel_rfl : depB _ _ _ = true), ?_⟩ | refine Or.inl ?_) | (clear hK K))
      all_goals (rw [hL1, hL2, hmp, hm])
      all_goals (simp only [okV, cond_true, cond_false, ht1, ht2])
      all_goals ((try refine ⟨by first | trivial | rfl, ?_⟩); intro x hx; simp only [lN] at hx; subst hx; simp)
    · obtain ⟨w, hw⟩ : ∃ w, (fullV 1 (nextS s2 2)).1 = w := ⟨_, rfl⟩
      obtain ⟨s4, hw4⟩ : ∃ s4, (fullV 1 (nextS s2 2)).2 = s4 := ⟨_, rfl⟩
      rw [hw, hw4] at kv1
      have hmap := refMap_c (g.keys ++ [otherK]) (l ++ [w]) (by rw [lA]; simp only [lC, lD]; omega)
      have hmp : mapA g.keys l s2 = (bif decide ((mapV (g.keys ++ [otherK]) (l ++ [w])).2 = 0) then (mapV (g.keys ++ [otherK]) (l ++ [w])).1 else tupVal l, s4) := by unfold mapA; rw [hnx]; simp only [cond_true, cond_false, hw, hw4]
      have hv1 := valid_c (tupVal l)
      have hv2 := valid_c (mapV (g.keys ++ [otherK]) (l ++ [w])).1
      cases hm : decide ((mapV (g.keys ++ [otherK]) (l ++ [w])).2 = 0) <;> cases ht1 : treeB (tupVal l) <;> cases ht2 : treeB (mapV (g.keys ++ [otherK]) (l ++ [w])).1 <;> rw [ht1] at hv1 <;> rw [ht2] at hv2
      all_goals
        repeat' (first | (simp only [go_sem, zA, zB, zC, zD, zE, zF, zG, reduceCtorEq, zH, zI, zJ, zK, zL, pin, encP_eq g, hk, hnx, hm, lB, hb, key_snoc1, val_snoc1, lA]; all_goals fail_if_success guard_target =ₛ False) | (with_reducible first | ((first | refine yA rfl ?_ | refine yB rfl ?_ | refine yS ?_ | refine yT (by kernel_rfl) ?_ | refine yC rfl ?_ | refine yD rfl ?_ | refine yE rfl ?_ | refine yF rfl ?_ | refine yG rfl ?_ | refine yH rfl ?_); intro K hK) | (apply hK; clear hK K) | refine yU ?_ | (refine yV (by with_unfolding_all rfl) ?_ ?_ <;> intro h <;> (try simp only [zM, zN] at h) <;> try exact absurd h (by decide)) | refine yW ?_ | refine yX ?_ | refine yY ?_ | (refine ⟨fun h => ?_, fun h => ?_⟩ <;> (try simp only [zM, zN] at h) <;> try simp only [h]) | refine ⟨_, hmap, ?_⟩ | refine ⟨_, hv1, ?_⟩ | refine ⟨_, hv2, ?_⟩ | refine ⟨_, refNil_c, ?_⟩ | (refine ⟨(by first | omega | (simp only [lA, lB, lQ, List.length_drop, lC, lD, List.length_replicate]; omega) : _ ≤ _), ?_⟩) | refine ⟨by omega, by omega, ?_⟩) | (apply Or.inr; refine ⟨900, _, _, _, ktup, rfl, ?_⟩; simp only [go_sem, zA, zB, zC, zD, zE, zF, zG, reduceCtorEq, zH, zI, zJ, zK, zL]) | (refine ⟨1000000, _, _, _, kn, rfl, ?_⟩) | (refine ⟨1000000, _, _, _, kv1, rfl, ?_⟩) | (with_reducible first | (refine xB (id := 26) 7 mixed (by kernel_rfl) fun K hK => ?_; simp only [lG, lH, lI, lJ]) | refine yZ mixed (by kernel_rfl) fun K hK => ?_ | refine ⟨(by kernel_rfl : depB _ _ _ = true), ?_⟩ | refine Or.inl ?_) | (clear hK K))
      all_goals (rw [hL1, hL2, hmp, hm])
      all_goals (simp only [okV, cond_true, cond_false, ht1, ht2])
      all_goals ((try refine ⟨by first | trivial | rfl, ?_⟩); intro x hx; simp only [lN] at hx; subst hx; simp)
mutual
def kOk : Pat → Bool
  | ⟨_, _, _, kids, keys⟩ => decide (keys.length ≤ 1000) && kOks kids
def kOks : List Pat → Bool
  | [] => true
  | g :: l => kOk g && kOks l
end
theorem kOks_all : ∀ l : List Pat, kOks l = l.all kOk
  | [] => by simp only [kOks, List.all_nil]
  | g :: l => by simp only [kOks, List.all_cons, kOks_all l]
theorem kOk_eq (g : Pat) : kOk g = (decide (g.keys.length ≤ 1000) && g.kids.all kOk) := by cases g; simp only [kOk, kOks_all]
theorem along_c (g : Pat) (hg : PSm g) (hk : kOk g = true) : AlongC g := by
  rw [kOk_eq, Bool.and_eq_true, decide_eq_true_eq, List.all_eq_true] at hk
  have ih : ∀ k ∈ g.kids, AlongC k := fun k hm => along_c k (hg.kid k hm) (hk.2 k hm)
  rcases pkinds g.kind with h | h | h | h | h | h | h | h | h | h | ⟨g1, g2, g3, g4, g5, g6, g7, g8, g9, g10⟩
  · exact along_o g (by rw [h]; rfl) (by rw [h]; rfl) (by rw [h]; rfl) (by rw [h]; rfl) (by rw [h]; rfl) (by rw [h]; rfl) (by rw [h]; rfl) (by rw [h]; rfl)
  · exact along_o g (by rw [h]; rfl) (by rw [h]; rfl) (by rw [h]; rfl) (by rw [h]; rfl) (by rw [h]; rfl) (by rw [h]; rfl) (by rw [h]; rfl) (by rw [h]; rfl)
  · exact along_3 g h
  · exact along_4 g h
  · exact along_5 g h
  · exact along_6 g h
  · exact along_7 g hg h ih
  · exact along_8 g hg h ih
  · exact along_9 g hg hk.1 h ih
  · exact along_10 g h ih
  · exact along_o g g3 g4 g5 g6 g7 g8 g9 g10
termination_by cntP g
decreasing_by exact cntP_kid hm
theorem kOk_leaf (k n : Int) (t : List UInt8) : kOk (leafP k n t) = true := by rw [kOk_eq]; rfl
theorem kOk_made : ∀ (d : Nat) (ns : List (List UInt8)) (s : Src), kOk (madeP d ns s).1 = true
  | 0, ns, s => by
    unfold madeP baseP
    cases decide (nextV s 6 = 0) <;> cases decide (nextV s 6 = 1) <;> cases decide (nextV s 6 = 2) <;> cases decide (nextV s 6 = 3) <;> cases decide (nextV s 6 = 4) <;> exact kOk_leaf _ _ _
  | d + 1, ns, s => by
    have h1 := kOk_made d (ns.take (ns.length / 2)) s
    have h2 := kOk_made d (ns.drop (ns.length / 2)) (madeP d (ns.take (ns.length / 2)) s).2
    unfold madeP joinP
    generalize (madeP d (ns.take (ns.length / 2)) s).1 = a at *
    generalize (madeP d (ns.take (ns.length / 2)) s).2 = s2 at *
    generalize (madeP d (ns.drop (ns.length / 2)) s2).1 = b at *
    generalize (madeP d (ns.drop (ns.length / 2)) s2).2 = s3 at *
    cases decide (nextV s3 6 = 0) <;> cases decide (nextV s3 6 = 1) <;> cases decide (nextV s3 6 = 2) <;> cases decide (nextV s3 6 = 3) <;> cases decide (nextV s3 6 = 4) <;> simp only [cond_true, cond_false] <;> first
      | exact h1
      | (rw [kOk_eq]; simp [kidsQ, h1, h2])
theorem matches_law (g : Pat) (hg : PSm g) (l m : List Int) (hl : ∀ x ∈ l, -9223372036854775808 ≤ x ∧ x ≤ 9223372036854775807) (hm : ∀ x ∈ m, -9223372036854775808 ≤ x ∧ x ≤ 9223372036854775807) (raw : Val) (hr : Sm raw) :
    PC zP 6 [Pt g, .one (.dat (.sl 1 (l.map encInt))), .one (.dat (.sl 1 (m.map encInt))), Vt raw] (Bo true) := by
  have hsh : PC zP 17 [.one (.dat (.sl 1 [[.sl 1 (l.map encInt)], [.sl 1 (m.map encInt)]]))] (Bo (!decide ((80 : Int) < (l.length : Int)) && !decide ((80 : Int) < (m.length : Int)))) := by
    have h := shortP_c [l, m]
    simpa only [List.all_cons, List.all_nil, Bool.and_true, List.map_cons, List.map_nil, encLP] using h
  have hsz : PC zP 16 [.st (encP g)] (I .i64 (cntP g)) := sizeP_c g hg
  have hnd := nodes_c raw hr
  generalize hcn : cntP g = cn at hsz
  generalize cntV raw = cv at hnd
  cases hb1 : decide ((80 : Int) < (cn : Int))
  case true =>
    refine PCB.of_body Tryz.func6 rfl (by decide) Tryz.ntmps6 Tryz.results6 rfl rfl rfl ?_ rfl rfl
    repeat' (first | (simp only [go_sem, zA, zB, zC, zD, zE, zF, zG, reduceCtorEq, zH, zI, zJ, zK, zL, lB, hb1]; all_goals fail_if_success guard_target =ₛ False) | (with_reducible first | ((first | refine yA rfl ?_ | refine yB rfl ?_ | refine yS ?_ | refine yT (by kernel_rfl) ?_); intro K hK) | (apply hK; clear hK K) | refine yU ?_ | (refine yV (by with_unfolding_all rfl) ?_ ?_ <;> intro h <;> (try simp only [zM, zN] at h) <;> try exact absurd h (by decide)) | refine yW ?_ | refine yX ?_ | refine yY ?_ | (refine ⟨fun h => ?_, fun h => ?_⟩ <;> (try simp only [zM, zN] at h) <;> try simp only [h]) | refine ⟨_, hsz, ?_⟩ | refine ⟨_, awake24_c, ?_⟩ | refine Or.inl ?_) | (clear hK K))
    all_goals (first | exact fun _ h => (by cases h) | (refine fin0 ?_; first | rfl | (simp only [zb, cond_true, cond_false, decide_true, decide_false] <;> rfl)))
  cases hb2 : decide ((80 : Int) < (l.length : Int)) <;> rw [hb2] at hsh
  case true =>
    refine PCB.of_body Tryz.func6 rfl (by decide) Tryz.ntmps6 Tryz.results6 rfl rfl rfl ?_ rfl rfl
    repeat' (first | (simp only [go_sem, zA, zB, zC, zD, zE, zF, zG, reduceCtorEq, zH, zI, zJ, zK, zL, lB, hb1]; all_goals fail_if_success guard_target =ₛ False) | (with_reducible first | ((first | refine yA rfl ?_ | refine yB rfl ?_ | refine yS ?_ | refine yT (by kernel_rfl) ?_); intro K hK) | (apply hK; clear hK K) | refine yU ?_ | (refine yV (by with_unfolding_all rfl) ?_ ?_ <;> intro h <;> (try simp only [zM, zN] at h) <;> try exact absurd h (by decide)) | refine yW ?_ | refine yX ?_ | refine yY ?_ | (refine ⟨fun h => ?_, fun h => ?_⟩ <;> (try simp only [zM, zN] at h) <;> try simp only [h]) | refine ⟨_, hsz, ?_⟩ | refine ⟨_, hsh, ?_⟩ | refine ⟨_, awake24_c, ?_⟩ | refine Or.inl ?_) | (clear hK K))
    all_goals (first | exact fun _ h => (by cases h) | (refine fin0 ?_; first | rfl | (simp only [zb, cond_true, cond_false, decide_true, decide_false] <;> rfl)))
  cases hb3 : decide ((80 : Int) < (m.length : Int)) <;> rw [hb3] at hsh
  case true =>
    refine PCB.of_body Tryz.func6 rfl (by decide) Tryz.ntmps6 Tryz.results6 rfl rfl rfl ?_ rfl rfl
    repeat' (first | (simp only [go_sem, zA, zB, zC, zD, zE, zF, zG, reduceCtorEq, zH, zI, zJ, zK, zL, lB, hb1]; all_goals fail_if_success guard_target =ₛ False) | (with_reducible first | ((first | refine yA rfl ?_ | refine yB rfl ?_ | refine yS ?_ | refine yT (by kernel_rfl) ?_); intro K hK) | (apply hK; clear hK K) | refine yU ?_ | (refine yV (by with_unfolding_all rfl) ?_ ?_ <;> intro h <;> (try simp only [zM, zN] at h) <;> try exact absurd h (by decide)) | refine yW ?_ | refine yX ?_ | refine yY ?_ | (refine ⟨fun h => ?_, fun h => ?_⟩ <;> (try simp only [zM, zN] at h) <;> try simp only [h]) | refine ⟨_, hsz, ?_⟩ | refine ⟨_, hsh, ?_⟩ | refine ⟨_, awake24_c, ?_⟩ | refine Or.inl ?_) | (clear hK K))
    all_goals (first | exact fun _ h => (by cases h) | (refine fin0 ?_; first | rfl | (simp only [zb, cond_true, cond_false, decide_true, decide_false] <;> rfl)))
  cases hb4 : decide ((40 : Int) < (cv : Int))
  case true =>
    refine PCB.of_body Tryz.func6 rfl (by decide) Tryz.ntmps6 Tryz.results6 rfl rfl rfl ?_ rfl rfl
    repeat' (first | (simp only [go_sem, zA, zB, zC, zD, zE, zF, zG, reduceCtorEq, zH, zI, zJ, zK, zL, lB, hb1, hb4]; all_goals fail_if_success guard_target =ₛ False) | (with_reducible first | ((first | refine yA rfl ?_ | refine yB rfl ?_ | refine yS ?_ | refine yT (by kernel_rfl) ?_); intro K hK) | (apply hK; clear hK K) | refine yU ?_ | (refine yV (by with_unfolding_all rfl) ?_ ?_ <;> intro h <;> (try simp only [zM, zN] at h) <;> try exact absurd h (by decide)) | refine yW ?_ | refine yX ?_ | refine yY ?_ | (refine ⟨fun h => ?_, fun h => ?_⟩ <;> (try simp only [zM, zN] at h) <;> try simp only [h]) | refine ⟨_, hsz, ?_⟩ | refine ⟨_, hsh, ?_⟩ | refine ⟨_, hnd, ?_⟩ | refine ⟨_, awake24_c, ?_⟩ | refine Or.inl ?_) | (clear hK K))
    all_goals (first | exact fun _ h => (by cases h) | (refine fin0 ?_; first | rfl | (simp only [zb, cond_true, cond_false, decide_true, decide_false] <;> rfl)))
  have hl8 : ¬ (80 : Int) < (l.length : Int) := of_decide_eq_false hb2
  have hm8 : ¬ (80 : Int) < (m.length : Int) := of_decide_eq_false hb3
  have hs0 : (Src.mk l 0).ok := ⟨hl, by simp only; omega⟩
  have ht0 : (Src.mk m 0).ok := ⟨hm, by simp only; omega⟩
  have km := (made_p 2 (by omega)).k 30 varL ⟨l, 0⟩ hs0 (by decide)
  have hcm := cnt_made 2 varL ⟨l, 0⟩
  have hka := kOk_made 2 varL ⟨l, 0⟩
  have hv := vars_c
  generalize varL = vl at *
  generalize (madeP 2 vl ⟨l, 0⟩).1 = a at km hcm hka
  generalize (madeP 2 vl ⟨l, 0⟩).2 = s9 at km
  have hca : cntP a ≤ 7 := hcm
  have hpa : PSm a := by unfold PSm; omega
  have ka := (along_c a hpa hka).k 36 ⟨m, 0⟩ ht0
  have hba := bulk_along a ⟨m, 0⟩
  generalize (alongV a ⟨m, 0⟩).1 = v at ka hba
  generalize (alongV a ⟨m, 0⟩).2 = s8 at ka
  have hsv : Sm v := by unfold Sm; omega
  have j1 : PC zP 23 [.st (encP a), .st (encVal v)] (Bo true) := matched_c a v hpa hsv
  have j2 : PC zP 23 [.st (encP g), .st (encVal v)] (Bo true) := matched_c g v hg hsv
  have j3 : PC zP 23 [.st (encP a), .st (encVal raw)] (Bo true) := matched_c a raw hpa hr
  refine PCB.of_body Tryz.func6 rfl (by decide) Tryz.ntmps6 Tryz.results6 rfl rfl rfl ?_ rfl rfl
  repeat' (first | (simp only [go_sem, zA, zB, zC, zD, zE, zF, zG, reduceCtorEq, zH, zI, zJ, zK, zL, lB, hb1, hb4]; all_goals fail_if_success guard_target =ₛ False) | (with_reducible first | ((first | refine yA rfl ?_ | refine yB rfl ?_ | refine yS ?_ | refine yT (by kernel_rfl) ?_); intro K hK) | (apply hK; clear hK K) | refine yU ?_ | (refine yV (by with_unfolding_all rfl) ?_ ?_ <;> intro h <;> (try simp only [zM, zN] at h) <;> try exact absurd h (by decide)) | refine yW ?_ | refine yX ?_ | refine yY ?_ | (refine ⟨fun h => ?_, fun h => ?_⟩ <;> (try simp only [zM, zN] at h) <;> try simp only [h]) | refine ⟨_, hsz, ?_⟩ | refine ⟨_, hsh, ?_⟩ | refine ⟨_, hnd, ?_⟩ | refine ⟨_, hv, ?_⟩ | refine ⟨_, j1, ?_⟩ | refine ⟨_, j2, ?_⟩ | refine ⟨_, j3, ?_⟩ | refine ⟨_, awake24_c, ?_⟩) | (refine ⟨30, _, _, _, km, rfl, ?_⟩) | (refine ⟨36, _, _, _, ka, rfl, ?_⟩) | (with_reducible first | refine Or.inl ?_) | (clear hK K))
  all_goals (first | exact fun _ h => (by cases h) | (refine fin0 ?_; first | rfl | (simp only [zb, cond_true, cond_false, decide_true, decide_false] <;> rfl)))
end Go.Proofs.YteobojeemflggaaGreat
